/- Texts of the proof: Clone, Default, Get6, Set6, Move6, Lastp, RefSp, RDef, ROps, Ranp, Same6, Ran6, Dop, Movesp, Snapp, Readq, Restp, Rdr6, Rdr7, Restq, REye, Restr. -/
import Derived.Test.YtnfbjidpiglabaaRQD
namespace Go.Proofs.Ytnfbjidpiglabaa
section
set_option linter.unusedVariables false
set_option linter.unusedSimpArgs false
set_option maxRecDepth 10000
open Go.RowKit Classical
theorem clone8 {W : World} {F : List Res} {xs : List UInt8} {a : Option Addr} {c : Nat} (hs : RdS W F e8 a xs) (hb : xs.length * e8.bytes ≤ 140737488355328) (hn : xs.length ≤ 140737488355328) : CS Try.prog 30 #[.slice a (xs).length c] W (F) (fun r L' => ∃ (a' : Option Addr) (c' : Nat), r = .slice a' xs.length c' ∧ L' = row e8.T e8.sz a' (xs).length c' (flat e8 xs) :: F) := by
 refine f_door (l0 := [(0, .slice a (xs).length c)]) Try.func30 Try.ntmps30 rfl rfl rfl ?_
 refine c_seq ?_
 refine c_fact (rds_nilq hs) ?_
 intro hz
 refine c_region (o_assign rfl rfl (l_nil (q_then (c_seq (c_seq (c_region (o_move rfl rfl ?_)))))))
 refine o_bin rfl rfl rfl (b_sleq Try.underlying23 _ _ _) ?_
 refine l_nil (q_then ?_)
 refine c_cond rfl (fun h1 => ?_) (fun h1 => ?_)
 · -- h1T
  have h1b := h1
  try simp only [decide_eq_true_eq, decide_eq_false_iff_not, Bool.not_eq_eq_eq_not, Bool.not_true, Bool.not_false, Bool.not_eq_true', Bool.not_eq_false', Int.not_lt, Int.not_le, Bool.or_eq_true, Bool.and_eq_true] at h1
  have hnil : xs = [] := hz (by simpa using h1)
  refine c_seq (c_region (o_assign rfl rfl (l_nil (q_then (c_ret (q_pass_ret ?_))))))
  exact f_ret (r_one rfl rfl) (⟨none, 0, by rw [hnil]; rfl, rfl⟩) (by rw [hnil]; exact fun w S => S.own_nil)
 · -- h1F
  have h1b := h1
  try simp only [decide_eq_true_eq, decide_eq_false_iff_not, Bool.not_eq_eq_eq_not, Bool.not_true, Bool.not_false, Bool.not_eq_true', Bool.not_eq_false', Int.not_lt, Int.not_le, Bool.or_eq_true, Bool.and_eq_true] at h1
  refine c_skip (q_then (c_seq (c_region ?_)))
  refine o_lit e8_ok rfl Try.underlying23 rfl rfl rfl (lit_ok rfl) ([] : List UInt8) rfl rfl fun a5 => ?_
  refine o_move rfl rfl ?_
  refine o_append e8_ok rfl rfl rfl Try.underlying23 (rds_c hs) (by simpa using hb) (by simpa using hn) fun a7 c7 => ?_
  refine o_assign rfl rfl (l_nil (q_then (c_ret ?_)))
  exact f_ret (r_one rfl rfl) (⟨_, _, rfl, rfl⟩) (fun w S => by simpa using S)
end
section
set_option linter.unusedVariables false
set_option linter.unusedSimpArgs false
set_option maxRecDepth 10000
open Go.RowKit Classical
def StR (k : Nat) (s : SS) : Res := obj (fun _ : Nat => OkS s) fun x => [blk k (.cells #[.int .i64 s.n, .pointer (some ⟨x, 0, none⟩)] 65 (0, 0)), treeR e_ItA eN99 103 105 ItA.f_key strlt x s.xs, vals s.xs]
theorem StR_ok {W w : World} {L : List Res} {k : Nat} {s : SS} (S : Sat W w (StR k s :: L)) : OkS s := by
  obtain ⟨_, h, _⟩ := S.obj_open
  exact h
theorem default_ {W : World} {F : List Res} {k : ByteArray} {n : Int} (hk : k.size ≤ 1000000) : CS Try.prog 14 #[.string k, .int .i64 n] W (F) (fun r L' => r = .int .i64 (dflt k n) ∧ F = L') := by
 refine f_door (l0 := [(0, .string k), (1, .int .i64 n)]) Try.func14 Try.ntmps14 rfl rfl rfl ?_
 refine c_seq (c_region (o_assign rfl rfl (l_nil (q_then (c_seq (c_seq (c_region (o_move rfl rfl ?_))))))))
 refine o_bin rfl rfl rfl b_lss ?_
 refine l_nil (q_then ?_)
 refine c_cond rfl (fun h1 => ?_) (fun h1 => ?_)
 · -- h1T
  have h1b := h1
  try simp only [decide_eq_true_eq] at h1
  refine c_seq (c_region (o_assign rfl rfl (l_nil (q_then (c_ret (q_pass_ret ?_))))))
  exact f_ret (r_one rfl rfl) (⟨by unfold dflt; rw [if_pos (by omega)], rfl⟩) (fun w S => S)
 · -- h1F
  have h1b := h1
  try simp only [decide_eq_false_iff_not, Int.not_lt, Int.not_le] at h1
  refine c_skip (q_then (c_seq (c_region (o_assign rfl rfl (l_nil (q_then (c_seq (c_seq (c_region ?_)))))))))
  refine o_move rfl rfl ?_
  refine o_lenStr rfl rfl Try.underlying9 ?_
  refine o_move rfl rfl (l_nil (q_then (c_block ?_)))
  refine c_loop (α := Nat) (fun z => [(0, .string k), (1, .int .i64 n), (5, .int .i64 (((sumI k z : Nat) : Int) % n)), (10, .int .i64 ((k).size : Int)), (11, .int .i64 (z : Int))]) (fun z => F) (fun z => z ≤ k.size) (fun z => k.size - z) (0) (by exact Nat.zero_le _) ⟨vr, vr, vr, vr, vr, trivial⟩ (fun w S => S) ?_
  rintro i hi
  try dsimp only at *
  refine c_seq (c_region ?_)
  refine o_bin rfl rfl rfl b_lss ?_
  refine l_nil (q_then (c_seq ?_))
  refine c_cond rfl (fun h2 => ?_) (fun h2 => ?_)
  · -- h2T
   have h2b := h2
   try simp only [decide_eq_true_eq] at h2
   refine c_skip (q_then (c_seq (c_block (c_seq (c_region (o_move rfl rfl (o_assign rfl rfl (l_nil (q_then ?_)))))))))
   have hbd := dflt_bd (k := k) (i := i) (n := n) (by omega)
   refine c_region (o_move rfl rfl (o_move rfl rfl (o_move rfl rfl ?_)))
   obtain ⟨x17, hx17⟩ : ∃ b, (k).data.toList[((i : Int)).toNat]? = some b := ⟨_, List.getElem?_eq_getElem (by (try simp only [Array.length_toList]); first | omega | (show _ < ByteArray.size _; omega))⟩
   refine o_strIndex rfl rfl rfl Try.underlying9 (by omega) hx17 ?_
   have hx17' : k.data.toList[i]? = some x17 := hx17
   have hbb := x17.toNat_lt
   refine o_int rfl rfl Try.underlying5 Try.underlying3 (wrap_i64 (by omega) (by omega)) ?_
   refine o_bin rfl rfl rfl (b_add (wrap_i64 (by omega) (by omega))) ?_
   refine o_move rfl rfl ?_
   refine o_bin rfl rfl rfl (b_rem (by omega) (dflt_on (by omega) hx17')) ?_
   refine o_assign rfl rfl (l_nil (q_block (q_then (c_region ?_))))
   refine o_bin rfl rfl rfl (b_add (wrap_i64 (by omega) (by omega))) ?_
   refine o_move rfl rfl (l_nil ?_)
   exact q_round (i + 1) (by omega) (by (try dsimp only); omega) ⟨vr, vr, vr, vr, vr, trivial⟩ (fun w S => S)
  · -- h2F
   have h2b := h2
   try simp only [decide_eq_false_iff_not, Int.not_lt, Int.not_le] at h2
   refine c_exit (q_pass_exit (q_pass_exit (q_hit (q_then (c_seq (c_region (o_move rfl rfl (o_assign rfl rfl (l_nil ?_)))))))))
   refine q_then (c_ret ?_)
   exact f_ret (r_one rfl rfl) (⟨by rw [show ((sumI k i : Nat) : Int) % n = dflt k n from by unfold dflt; rw [if_neg (by omega), sumI_all (by omega)]], rfl⟩) (fun w S => S)
end
section
set_option linter.unusedVariables false
set_option linter.unusedSimpArgs false
set_option maxRecDepth 10000
open Go.RowKit Classical
theorem new_ {W : World} {F : List Res} {n : Int} (h1n : 1 ≤ n) (hn3 : n ≤ 3) : CS Try.prog 10 #[.int .i64 n] W (F) (fun r L' => ∃ k : Nat, r = .tuple #[.pointer (some ⟨k, 0, none⟩), .int .i64 0] ∧ L' = StR k ⟨n, []⟩ :: F) := by
 refine f_door (l0 := [(0, .int .i64 n)]) Try.func10 Try.ntmps10 rfl rfl rfl ?_
 refine c_seq (c_region (o_assign rfl rfl (o_assign rfl rfl (l_nil (q_then (c_seq (c_seq (c_region (o_move rfl rfl ?_)))))))))
 refine o_bin rfl rfl rfl b_lss ?_
 refine l_eq (t := 5) (v' := .bool false) rfl (show _ = Value.bool false from by rw [decide_eq_false (by omega)]) ?_
 refine o_move rfl rfl (o_yes rfl rfl rfl (o_move rfl rfl (o_yes rfl rfl rfl ?_)))
 refine o_bin rfl rfl rfl b_gtr ?_
 refine l_eq (t := 8) (v' := .bool false) rfl (show _ = Value.bool false from by rw [decide_eq_false (by omega)]) ?_
 refine o_pick_false rfl rfl rfl (l_nil (q_then (c_false rfl (c_skip (q_then (c_seq (c_region (o_move rfl rfl ?_))))))))
 refine o_call rfl cal29 rfl (new_A) ?_
 rintro _ _ ⟨t11, rfl, rfl⟩
 refine o_build rfl sp65 ti65 rfl ((fill_cons (cells' := [.int .i64 n, .pointer none]) rfl rfl rfl rfl (fill_cons (cells' := [.int .i64 n, .pointer (some ⟨t11, 0, none⟩)]) rfl rfl rfl rfl fill_nil))) ?_
 refine o_box rfl rfl fun b13 => ?_
 refine o_assign rfl rfl (o_assign rfl rfl (l_nil (q_then (c_ret ?_))))
 exact f_ret (r_two rfl rfl rfl) (⟨b13, rfl, rfl⟩) (fun w S => Sat.obj_mk t11 (OkS.new h1n hn3) (((Sat.vals_nil S).perm p2).perm p2))
theorem newlo_ {W : World} {F : List Res} {n : Int} (h1n : n < 1) : CS Try.prog 10 #[.int .i64 n] W (F) (fun r L' => r = .tuple #[.pointer none, .int .i64 1] ∧ F = L') := by
 refine f_door (l0 := [(0, .int .i64 n)]) Try.func10 Try.ntmps10 rfl rfl rfl ?_
 refine c_seq (c_region (o_assign rfl rfl (o_assign rfl rfl (l_nil (q_then (c_seq (c_seq (c_region (o_move rfl rfl ?_)))))))))
 refine o_bin rfl rfl rfl b_lss ?_
 refine l_eq (t := 5) (v' := .bool true) rfl (show _ = Value.bool true from by rw [decide_eq_true (by omega)]) ?_
 refine o_move rfl rfl (o_no rfl rfl rfl rfl (o_no rfl rfl rfl rfl (o_pick_true rfl rfl rfl (l_nil (q_then (c_true rfl (c_seq (c_region (o_assign rfl rfl ?_)))))))))
 refine o_assign rfl rfl (l_nil (q_then (c_ret (q_pass_ret ?_))))
 exact f_ret (r_two rfl rfl rfl) (⟨rfl, rfl⟩) (fun w S => S)
theorem newhi_ {W : World} {F : List Res} {n : Int} (h1n : 3 < n) : CS Try.prog 10 #[.int .i64 n] W (F) (fun r L' => r = .tuple #[.pointer none, .int .i64 1] ∧ F = L') := by
 refine f_door (l0 := [(0, .int .i64 n)]) Try.func10 Try.ntmps10 rfl rfl rfl ?_
 refine c_seq (c_region (o_assign rfl rfl (o_assign rfl rfl (l_nil (q_then (c_seq (c_seq (c_region (o_move rfl rfl ?_)))))))))
 refine o_bin rfl rfl rfl b_lss ?_
 refine l_eq (t := 5) (v' := .bool false) rfl (show _ = Value.bool false from by rw [decide_eq_false (by omega)]) ?_
 refine o_move rfl rfl (o_yes rfl rfl rfl (o_move rfl rfl (o_yes rfl rfl rfl ?_)))
 refine o_bin rfl rfl rfl b_gtr ?_
 refine l_eq (t := 8) (v' := .bool true) rfl (show _ = Value.bool true from by rw [decide_eq_true (by omega)]) ?_
 refine o_pick_false rfl rfl rfl (l_nil (q_then (c_true rfl (c_seq (c_region (o_assign rfl rfl (o_assign rfl rfl (l_nil (q_then ?_)))))))))
 refine c_ret (q_pass_ret ?_)
 exact f_ret (r_two rfl rfl rfl) (⟨rfl, rfl⟩) (fun w S => S)
theorem get_ {W : World} {F : List Res} {k : Nat} {s : SS} {k' : ByteArray} (hk : k'.size ≤ 1000000) : CS Try.prog 13 #[.pointer (some ⟨k, 0, none⟩), .string k'] W (StR k s :: F) (fun r L' => ∃ v : Rec, v.m = lookM s.n k' s.M ∧ r = .agg #[.bool v.f_Has, .slice v.f_Value.a (v.f_Value.xs).length v.f_Value.c, .int .i64 v.f_Home, .int .u64 v.f_Count] ∧ L' = row e8.T e8.sz v.f_Value.a (v.f_Value.xs).length v.f_Value.c (flat e8 v.f_Value.xs) :: StR k s :: F) := by
 refine f_door (l0 := [(0, .pointer (some ⟨k, 0, none⟩)), (1, .string k')]) Try.func13 Try.ntmps13 rfl rfl rfl ?_
 refine c_seq (c_region ?_)
 refine o_alloc rfl ti36 fun b4 => ?_
 refine l_nil (q_then (c_seq (cP p1 ?_)))
 refine c_obj ?_
 rintro t_1 ok_1
 refine c_conv (L' := blk k (.cells #[.int .i64 s.n, .pointer (some ⟨t_1, 0, none⟩)] 65 (0, 0)) :: treeR e_ItA eN99 103 105 ItA.f_key strlt t_1 s.xs :: vals s.xs :: _) (fun w S => S) ?_
 refine c_region (o_move rfl rfl (o_nil rfl rfl ?_))
 refine o_fieldAddr (q := ⟨k, 1, none⟩) rfl rfl Try.underlying65 rfl ti62 rfl ?_
 refine o_load1 rfl rfl Try.underlying62 rfl (rd_mem 0 rfl rfl) ?_
 refine o_move rfl rfl (l_f1 ?_)
 refine o_call rfl cal32 rfl (tget_A (k := k')) ?_
 rintro _ _ ⟨v13, ok13, hg13, hz13, rfl, rfl⟩
 refine o_move rfl rfl (o_extract rfl rfl rfl (o_extract rfl rfl rfl ?_))
 refine o_alloc rfl ti36 fun b5 => ?_
 refine o_storen rfl rfl ti36 rfl rfl rfl rfl ?_
 refine o_assign rfl rfl (l_nil (q_then (c_seq (c_seq (c_region (o_move rfl rfl ?_))))))
 refine o_not rfl rfl ?_
 refine l_nil (q_then ?_)
 refine c_cond rfl (fun h1 => ?_) (fun h1 => ?_)
 · -- h1T
  have h1b := h1
  try simp only [decide_eq_true_eq, decide_eq_false_iff_not, Bool.not_eq_eq_eq_not, Bool.not_true, Bool.not_false, Bool.not_eq_true', Bool.not_eq_false', Int.not_lt, Int.not_le, Bool.or_eq_true, Bool.and_eq_true] at h1
  refine c_region (o_move rfl rfl (o_move rfl rfl (o_nil rfl rfl ?_)))
  refine o_fieldAddr (q := ⟨k, 0, none⟩) rfl rfl Try.underlying65 rfl ti3 rfl ?_
  refine o_load1 rfl rfl Try.underlying3 rfl (rd_mem 2 rfl rfl) ?_
  refine o_call rfl cal14 rfl (default_ (k := k') (n := s.n) (by omega)) ?_
  rintro _ _ ⟨rfl, rfl⟩
  refine o_fieldAddr (q := ⟨b5, 2, none⟩) rfl rfl Try.underlying36 rfl ti3 rfl ?_
  refine o_store1 rfl rfl rfl ti3 rfl rfl ?_
  refine l_nil (q_then (c_seq ?_))
  obtain rfl : ok13 = false := by simpa using h1b
  obtain rfl := hz13 rfl
  have hlk := look_none hg13
  have hvl : ([] : List UInt8).length ≤ 1000000 := by simp
  refine c_nilrow e8 ?_
  refine cP p1 ?_
  refine c_conv (L' := blk b5 (.cells #[.bool ((⟨false, ⟨none, [], 0⟩, 0, 0⟩ : Rec).f_Has), .slice none (([] : List UInt8)).length 0, .int .i64 (dflt k' s.n), .int .u64 ((⟨false, ⟨none, [], 0⟩, 0, 0⟩ : Rec).f_Count)] 36 (0, 0)) :: _) (fun w S => S) ?_
  refine c_region ?_
  refine o_fieldAddr (q := ⟨b5, 1, none⟩) rfl rfl Try.underlying36 rfl ti23 rfl ?_
  refine o_load1 rfl rfl Try.underlying23 rfl (rd_mem 0 rfl rfl) ?_
  refine o_call rfl cal30 rfl (clone8 (xs := ([] : List UInt8)) (a := none) (c := 0) (rds_own e8_ok 1 rfl) (by show _ * 1 ≤ _; omega) (by omega)) ?_
  rintro _ _ ⟨a27, c27, rfl, rfl⟩
  refine o_fieldAddr (q := ⟨b5, 1, none⟩) rfl rfl Try.underlying36 rfl ti23 rfl ?_
  refine l_f1 ?_
  refine o_store1 rfl rfl rfl ti23 rfl rfl ?_
  refine l_nil (q_then (c_seq (c_region ?_)))
  refine o_loadn (vs := [_, _, _, _]) rfl rfl Try.underlying36 rfl ti36 (rdn_lit 0 rfl rfl) ?_
  refine l_f6 ?_
  refine o_storen rfl rfl ti36 rfl rfl rfl rfl ?_
  refine l_nil (q_then (c_ret (qP p3 (qP p3 (qP p3 (qP p3 (qP p6 (qP p5 (qP p6 ?_)))))))))
  refine q_conv (L' := StR k s :: _) (fun w S => Sat.obj_mk t_1 ok_1 S) ?_
  refine f_retq (.inl rfl) (rs_1 rfl (rs_celln (vs := [.bool ((⟨false, ⟨none, [], 0⟩, 0, 0⟩ : Rec).f_Has), .slice a27 (([] : List UInt8)).length c27, .int .i64 (dflt k' s.n), .int .u64 ((⟨false, ⟨none, [], 0⟩, 0, 0⟩ : Rec).f_Count)]) rfl Try.underlying36 rfl ti36 (rdn_lit 1 rfl rfl))) (fun w S => ?_)
  replace S := (S.perm p1).tail
  replace S := (S.perm p1).tail
  replace S := (S.perm p2).tail
  replace S := S.perm p1
  exact ⟨_, ⟨(⟨(⟨false, ⟨none, [], 0⟩, 0, 0⟩ : Rec).f_Has, ⟨a27, ([] : List UInt8), c27⟩, dflt k' s.n, (⟨false, ⟨none, [], 0⟩, 0, 0⟩ : Rec).f_Count⟩ : Rec), (by rw [hlk] <;> rfl), rfl, rfl⟩, (fun w S => S) w S⟩
 · -- h1F
  have h1b := h1
  try simp only [decide_eq_true_eq, decide_eq_false_iff_not, Bool.not_eq_eq_eq_not, Bool.not_true, Bool.not_false, Bool.not_eq_true', Bool.not_eq_false', Int.not_lt, Int.not_le, Bool.or_eq_true, Bool.and_eq_true] at h1
  refine c_skip (q_then (c_seq ?_))
  obtain rfl : ok13 = true := by simpa using h1b
  obtain ⟨y13, hy13, hky13⟩ := hg13.has.1 rfl
  obtain rfl := hg13.val rfl y13 hy13 hky13
  obtain ⟨i13, hi13⟩ := List.getElem?_of_mem hy13
  have hlk := look_has hg13
  have hvl : y13.f_value.f_Value.xs.length ≤ 1000000 := (ok_1.ok _ hy13).val
  refine cP p3 ?_
  refine c_conv (L' := row e8.T e8.sz y13.f_value.f_Value.a (y13.f_value.f_Value.xs).length y13.f_value.f_Value.c (flat e8 y13.f_value.f_Value.xs) :: vals (s.xs.eraseIdx i13) :: _) (fun w S => Sat.vals_take hi13 S) ?_
  refine cP p2 ?_
  refine c_conv (L' := blk b5 (.cells #[.bool y13.f_value.f_Has, .slice y13.f_value.f_Value.a (y13.f_value.f_Value.xs).length y13.f_value.f_Value.c, .int .i64 y13.f_value.f_Home, .int .u64 y13.f_value.f_Count] 36 (0, 0)) :: _) (fun w S => S) ?_
  refine c_region ?_
  refine o_fieldAddr (q := ⟨b5, 1, none⟩) rfl rfl Try.underlying36 rfl ti23 rfl ?_
  refine o_load1 rfl rfl Try.underlying23 rfl (rd_mem 0 rfl rfl) ?_
  refine o_call rfl cal30 rfl (clone8 (xs := y13.f_value.f_Value.xs) (a := y13.f_value.f_Value.a) (c := y13.f_value.f_Value.c) (rds_own e8_ok 1 rfl) (by show _ * 1 ≤ _; omega) (by omega)) ?_
  rintro _ _ ⟨a27, c27, rfl, rfl⟩
  refine o_fieldAddr (q := ⟨b5, 1, none⟩) rfl rfl Try.underlying36 rfl ti23 rfl ?_
  refine l_f1 ?_
  refine o_store1 rfl rfl rfl ti23 rfl rfl ?_
  refine l_nil (q_then (c_seq (c_region ?_)))
  refine o_loadn (vs := [_, _, _, _]) rfl rfl Try.underlying36 rfl ti36 (rdn_lit 0 rfl rfl) ?_
  refine l_f6 ?_
  refine o_storen rfl rfl ti36 rfl rfl rfl rfl ?_
  refine l_nil (q_then (c_ret (qP p6 (qP p6 (qP p4 (qP p4 (qP p4 (qP p6 (qP p6 ?_)))))))))
  refine q_conv (L' := vals s.xs :: _) (fun w S => Sat.vals_back hi13 S) ?_
  refine qP p3 (qP p3 (qP p3 (qP p3 (qP p4 (qP p5 ?_)))))
  refine q_conv (L' := StR k (⟨s.n, s.xs⟩ : SS) :: _) (fun w S => Sat.obj_mk t_1 ok_1 S) ?_
  refine f_retq (.inl rfl) (rs_1 rfl (rs_celln (vs := [.bool y13.f_value.f_Has, .slice a27 (y13.f_value.f_Value.xs).length c27, .int .i64 y13.f_value.f_Home, .int .u64 y13.f_value.f_Count]) rfl Try.underlying36 rfl ti36 (rdn_lit 1 rfl rfl))) (fun w S => ?_)
  replace S := (S.perm p1).tail
  replace S := (S.perm p1).tail
  replace S := S.perm p1
  exact ⟨_, ⟨(⟨y13.f_value.f_Has, ⟨a27, y13.f_value.f_Value.xs, c27⟩, y13.f_value.f_Home, y13.f_value.f_Count⟩ : Rec), (by rw [hlk] <;> rfl), rfl, rfl⟩, (fun w S => S) w S⟩
end
section
set_option linter.unusedVariables false
set_option linter.unusedSimpArgs false
set_option maxRecDepth 10000
open Go.RowKit Classical
theorem set_ {W : World} {F : List Res} {k : Nat} {s : SS} {k' : ByteArray} {r : Rec} (hr : OkR 3 r.m) (hl : s.xs.length ≤ 1000000) : CS Try.prog 31 #[.pointer (some ⟨k, 0, none⟩), .string k', .agg #[.bool r.f_Has, .slice r.f_Value.a (r.f_Value.xs).length r.f_Value.c, .int .i64 r.f_Home, .int .u64 r.f_Count]] W (row e8.T e8.sz r.f_Value.a (r.f_Value.xs).length r.f_Value.c (flat e8 r.f_Value.xs) :: StR k s :: F) (fun _ L' => ∃ s' : SS, s'.n = s.n ∧ s'.M = setM k' r.m s.M ∧ L' = StR k s' :: F) := by
 refine f_door (l0 := [(0, .pointer (some ⟨k, 0, none⟩)), (1, .string k'), (2, .agg #[.bool r.f_Has, .slice r.f_Value.a (r.f_Value.xs).length r.f_Value.c, .int .i64 r.f_Home, .int .u64 r.f_Count])]) Try.func31 Try.ntmps31 rfl rfl rfl ?_
 refine c_seq (c_region ?_)
 refine o_box rfl rfl fun b5 => ?_
 refine l_nil (q_then (c_seq (c_seq (cP p2 ?_))))
 refine c_obj ?_
 rintro t_1 ok_1
 refine c_conv (L' := blk k (.cells #[.int .i64 s.n, .pointer (some ⟨t_1, 0, none⟩)] 65 (0, 0)) :: treeR e_ItA eN99 103 105 ItA.f_key strlt t_1 s.xs :: vals s.xs :: _) (fun w S => S) ?_
 refine c_region ?_
 refine o_fieldAddr (q := ⟨b5, 0, none⟩) rfl rfl Try.underlying36 rfl ti4 rfl ?_
 refine o_load1 rfl rfl Try.underlying4 rfl (rd_mem 3 rfl rfl) ?_
 refine o_not rfl rfl ?_
 refine o_move rfl rfl ?_
 refine l_split (t := 9) rfl (fun h1 => ?_) (fun h1 => ?_)
 · -- h1T
  have h1b := h1
  try simp only [decide_eq_true_eq, decide_eq_false_iff_not, Bool.not_eq_eq_eq_not, Bool.not_true, Bool.not_false, Bool.not_eq_true', Bool.not_eq_false', Int.not_lt, Int.not_le, Bool.or_eq_true, Bool.and_eq_true] at h1
  refine o_yes rfl rfl rfl ?_
  refine o_fieldAddr (q := ⟨b5, 3, none⟩) rfl rfl Try.underlying36 rfl ti34 rfl ?_
  refine o_yes rfl rfl rfl ?_
  refine o_load1 rfl rfl Try.underlying34 rfl (rd_mem 3 rfl rfl) ?_
  refine o_yes rfl rfl rfl ?_
  refine o_bin rfl rfl rfl b_eql ?_
  refine o_pick_true rfl rfl rfl (l_nil (q_then ?_))
  refine c_cond rfl (fun h2 => ?_) (fun h2 => ?_)
  · -- h2T
   have h2b := h2
   try simp only [decide_eq_true_eq] at h2
   refine c_seq (c_region (o_move rfl rfl (o_nil rfl rfl ?_)))
   refine o_fieldAddr (q := ⟨k, 1, none⟩) rfl rfl Try.underlying65 rfl ti62 rfl ?_
   refine o_load1 rfl rfl Try.underlying62 rfl (rd_mem 0 rfl rfl) ?_
   refine o_move rfl rfl (l_f1 ?_)
   refine o_call rfl cal54 rfl (tdel_A (k := k') (by omega)) ?_
   rintro _ _ ⟨v19, ok19, hg19, rfl, rfl⟩
   refine l_nil (q_then (c_ret (q_pass_ret (qP p3 (qT (qP p3 (qT (qP p2 (qP p1 ?_)))))))))
   refine qP p2 ?_
   exact f_ret (r_none rfl) (⟨⟨s.n, del ItA.f_key k' s.xs⟩, rfl, by (rw [show setM k' r.m s.M = delM k' s.M from if_pos ⟨(show r.f_Has = false by simpa using h1b), (show r.f_Count = 0 by assumption)⟩]; exact map_del), rfl⟩) (fun w S => Sat.obj_mk t_1 ok_1.del (((Sat.vals_del (S.perm p2)).perm p2).perm p2))
  · -- h2F
   have h2b := h2
   try simp only [decide_eq_false_iff_not, Int.not_lt, Int.not_le] at h2
   refine c_skip (q_then ?_)
   have hneg : ¬ (r.m.has = false ∧ r.m.count = 0) := by rintro ⟨h8, h9⟩; simp only [Rec.m] at h8 h9; simp_all
   refine cP p1 (cP p4 (cP p4 (cP p4 (cP p4 ?_))))
   refine c_held [blk k (.cells #[.int .i64 s.n, .pointer (some ⟨t_1, 0, none⟩)] 65 (0, 0)), vals s.xs, blk b5 (.cells #[.bool r.f_Has, .slice r.f_Value.a (r.f_Value.xs).length r.f_Value.c, .int .i64 r.f_Home, .int .u64 r.f_Count] 36 (0, 0)), row e8.T e8.sz r.f_Value.a (r.f_Value.xs).length r.f_Value.c (flat e8 r.f_Value.xs)] (by kernel_rfl) rfl ?_
   refine h_take 0 rfl rfl (by kernel_rfl) (by kernel_rfl) (by kernel_rfl) (fun L0 => v_move rfl rfl) ?_
   refine h_take 1 rfl rfl (by kernel_rfl) (by kernel_rfl) (by kernel_rfl) (fun L0 => v_nil rfl rfl) ?_
   refine h_take 2 rfl rfl (by kernel_rfl) (by kernel_rfl) (by kernel_rfl) (fun L0 => v_fieldAddr (q := ⟨k, 1, none⟩) rfl rfl Try.underlying65 rfl ti62 rfl) ?_
   refine h_take 3 rfl rfl (by kernel_rfl) (by kernel_rfl) (by kernel_rfl) (fun L0 => v_load1 rfl rfl Try.underlying62 rfl (rd_mem 0 rfl rfl)) ?_
   refine h_take 4 rfl rfl (by kernel_rfl) (by kernel_rfl) (by kernel_rfl) (fun L0 => v_move rfl rfl) ?_
   refine h_take 5 rfl rfl (by kernel_rfl) (by kernel_rfl) (by kernel_rfl) (fun L0 => v_loadn (vs := [_, _, _, _]) rfl rfl Try.underlying36 rfl ti36 (rdn_lit 2 rfl rfl)) ?_
   refine h_one 6 rfl (by kernel_rfl) ?_
   refine l_f4 ?_
   refine o_call rfl cal55 rfl (tput_A (k := k') (v := r) (by omega)) ?_
   rintro _ _ ⟨old26, had26, ⟨hol26, hsr26⟩, rfl, rfl⟩
   refine l_nil (qP p4 (qP p4 (qP p4 (qP p4 (h_next ?_)))))
   refine h_done (by kernel_rfl) ?_
   refine qP p2 (qT (qP p1 (qP p2 (qP p3 (qP p3 ?_)))))
   exact f_end (r_none rfl) (⟨⟨s.n, ins ItA.f_key strlt (⟨k', r⟩ : ItA) s.xs⟩, rfl, by (rw [show setM k' r.m s.M = insM k' r.m s.M from if_neg hneg]; exact map_ins), rfl⟩) (fun w S => Sat.obj_mk t_1 (ok_1.ins hr) (((Sat.vals_ins (x := (⟨k', r⟩ : ItA)) ((S.perm p3).perm p3)).perm p2).perm p2))
 · -- h1F
  have h1b := h1
  try simp only [decide_eq_true_eq, decide_eq_false_iff_not, Bool.not_eq_eq_eq_not, Bool.not_true, Bool.not_false, Bool.not_eq_true', Bool.not_eq_false', Int.not_lt, Int.not_le, Bool.or_eq_true, Bool.and_eq_true] at h1
  refine o_no rfl rfl rfl rfl (o_no rfl rfl rfl rfl (o_no rfl rfl rfl rfl (o_pick_false rfl rfl rfl (l_nil (q_then (c_false rfl (c_skip (q_then ?_))))))))
  have hneg : ¬ (r.m.has = false ∧ r.m.count = 0) := by rintro ⟨h8, h9⟩; simp only [Rec.m] at h8 h9; simp_all
  refine cP p1 (cP p4 (cP p4 (cP p4 (cP p4 ?_))))
  refine c_held [blk k (.cells #[.int .i64 s.n, .pointer (some ⟨t_1, 0, none⟩)] 65 (0, 0)), vals s.xs, blk b5 (.cells #[.bool r.f_Has, .slice r.f_Value.a (r.f_Value.xs).length r.f_Value.c, .int .i64 r.f_Home, .int .u64 r.f_Count] 36 (0, 0)), row e8.T e8.sz r.f_Value.a (r.f_Value.xs).length r.f_Value.c (flat e8 r.f_Value.xs)] (by kernel_rfl) rfl ?_
  refine h_take 0 rfl rfl (by kernel_rfl) (by kernel_rfl) (by kernel_rfl) (fun L0 => v_move rfl rfl) ?_
  refine h_take 1 rfl rfl (by kernel_rfl) (by kernel_rfl) (by kernel_rfl) (fun L0 => v_nil rfl rfl) ?_
  refine h_take 2 rfl rfl (by kernel_rfl) (by kernel_rfl) (by kernel_rfl) (fun L0 => v_fieldAddr (q := ⟨k, 1, none⟩) rfl rfl Try.underlying65 rfl ti62 rfl) ?_
  refine h_take 3 rfl rfl (by kernel_rfl) (by kernel_rfl) (by kernel_rfl) (fun L0 => v_load1 rfl rfl Try.underlying62 rfl (rd_mem 0 rfl rfl)) ?_
  refine h_take 4 rfl rfl (by kernel_rfl) (by kernel_rfl) (by kernel_rfl) (fun L0 => v_move rfl rfl) ?_
  refine h_take 5 rfl rfl (by kernel_rfl) (by kernel_rfl) (by kernel_rfl) (fun L0 => v_loadn (vs := [_, _, _, _]) rfl rfl Try.underlying36 rfl ti36 (rdn_lit 2 rfl rfl)) ?_
  refine h_one 6 rfl (by kernel_rfl) ?_
  refine l_f4 ?_
  refine o_call rfl cal55 rfl (tput_A (k := k') (v := r) (by omega)) ?_
  rintro _ _ ⟨old26, had26, ⟨hol26, hsr26⟩, rfl, rfl⟩
  refine l_nil (qP p4 (qP p4 (qP p4 (qP p4 (h_next ?_)))))
  refine h_done (by kernel_rfl) ?_
  refine qP p2 (qT (qP p1 (qP p2 (qP p3 (qP p3 ?_)))))
  exact f_end (r_none rfl) (⟨⟨s.n, ins ItA.f_key strlt (⟨k', r⟩ : ItA) s.xs⟩, rfl, by (rw [show setM k' r.m s.M = insM k' r.m s.M from if_neg hneg]; exact map_ins), rfl⟩) (fun w S => Sat.obj_mk t_1 (ok_1.ins hr) (((Sat.vals_ins (x := (⟨k', r⟩ : ItA)) ((S.perm p3).perm p3)).perm p2).perm p2))
end
section
set_option linter.unusedVariables false
set_option linter.unusedSimpArgs false
set_option maxRecDepth 10000
open Go.RowKit Classical
theorem move6_ {W : World} {F : List Res} {k : Nat} {s : SS} {k' : ByteArray} {h : Int} (hk : k'.size ≤ 1000000) (hl : s.xs.length ≤ 1000000) : CS Try.prog 18 #[.pointer (some ⟨k, 0, none⟩), .string k', .int .i64 h] W (StR k s :: F) (fun r L' => ∃ (s' : SS) (e : Int), s'.n = s.n ∧ moveM s.n k' h s.M = (e, s'.M) ∧ r = .int .i64 e ∧ L' = StR k s' :: F) := by
 refine f_door (l0 := [(0, .pointer (some ⟨k, 0, none⟩)), (1, .string k'), (2, .int .i64 h)]) Try.func18 Try.ntmps18 rfl rfl rfl ?_
 refine c_seq ?_
 refine c_fact (p := OkS s) (fun w S => StR_ok S) fun hok => ?_
 refine c_region (o_assign rfl rfl (l_nil (q_then (c_seq (c_region (o_move rfl rfl (o_move rfl rfl ?_)))))))
 refine o_call rfl cal13 rfl (get_ (k' := k') (by omega)) ?_
 rintro _ _ ⟨v10, hv10, rfl, rfl⟩
 refine o_alloc rfl ti36 fun b7 => ?_
 refine o_storen rfl rfl ti36 rfl rfl rfl rfl ?_
 refine l_nil (q_then (c_seq (c_block (c_seq ?_))))
 have hlo := hok.look k'
 rw [← hv10] at hlo
 have hn3 := hok.n3
 have hc0 := hlo.c0
 have hcn := hlo.cn
 simp only [maxU, Rec.m] at hc0 hcn
 refine cP p2 ?_
 refine c_obj ?_
 rintro t_1 ok_1
 refine c_conv (L' := blk k (.cells #[.int .i64 s.n, .pointer (some ⟨t_1, 0, none⟩)] 65 (0, 0)) :: treeR e_ItA eN99 103 105 ItA.f_key strlt t_1 s.xs :: vals s.xs :: _) (fun w S => S) ?_
 refine c_region (o_move rfl rfl ?_)
 refine o_bin rfl rfl rfl b_lss ?_
 refine o_move rfl rfl ?_
 refine l_split (t := 14) rfl (fun h1 => ?_) (fun h1 => ?_)
 · -- h1T
  have h1b := h1
  try simp only [decide_eq_true_eq] at h1
  refine o_no rfl rfl rfl rfl (o_no rfl rfl rfl rfl (o_no rfl rfl rfl rfl (o_no rfl rfl rfl rfl (o_no rfl rfl rfl rfl (o_no rfl rfl rfl rfl (o_pick_true rfl rfl rfl (o_assign rfl rfl (l_nil (q_then ?_)))))))))
  refine c_true rfl (c_seq (c_region (o_assign rfl rfl (l_nil (q_then (c_ret ?_))))))
  refine q_block_ret ?_
  refine q_pass_ret ?_
  refine q_conv (L' := StR k s :: _) (fun w S => Sat.obj_mk t_1 ok_1 S) ?_
  refine qP p1 (qT (qP p1 (qT ?_)))
  exact f_ret (r_one rfl rfl) (⟨s, 1, rfl, by (unfold moveM; rw [if_pos (by omega)]), rfl, rfl⟩) (fun w S => S)
 · -- h1F
  have h1b := h1
  try simp only [decide_eq_false_iff_not, Int.not_lt, Int.not_le] at h1
  refine o_yes rfl rfl rfl (o_move rfl rfl (o_yes rfl rfl rfl (o_move rfl rfl (o_yes rfl rfl rfl (o_nil rfl rfl (o_yes rfl rfl rfl ?_))))))
  refine o_fieldAddr (q := ⟨k, 0, none⟩) rfl rfl Try.underlying65 rfl ti3 rfl ?_
  refine o_yes rfl rfl rfl ?_
  refine o_load1 rfl rfl Try.underlying3 rfl (rd_mem 0 rfl rfl) ?_
  refine o_yes rfl rfl rfl ?_
  refine o_bin rfl rfl rfl b_geq ?_
  refine o_pick_false rfl rfl rfl (o_assign rfl rfl (l_nil (q_then ?_)))
  refine c_cond rfl (fun h2 => ?_) (fun h2 => ?_)
  · -- h2T
   have h2b := h2
   try simp only [decide_eq_true_eq] at h2
   refine c_seq (c_region (o_assign rfl rfl (l_nil (q_then (c_ret ?_)))))
   refine q_block_ret ?_
   refine q_pass_ret ?_
   refine q_conv (L' := StR k s :: _) (fun w S => Sat.obj_mk t_1 ok_1 S) ?_
   refine qP p1 (qT (qP p1 (qT ?_)))
   exact f_ret (r_one rfl rfl) (⟨s, 1, rfl, by (unfold moveM; rw [if_pos (by omega)]), rfl, rfl⟩) (fun w S => S)
  · -- h2F
   have h2b := h2
   try simp only [decide_eq_false_iff_not, Int.not_lt, Int.not_le] at h2
   refine c_seq (c_region ?_)
   refine o_fieldAddr (q := ⟨b7, 3, none⟩) rfl rfl Try.underlying36 rfl ti34 rfl ?_
   refine o_load1 rfl rfl Try.underlying34 rfl (rd_mem 3 rfl rfl) ?_
   refine o_bin rfl rfl rfl b_eql ?_
   refine o_assign rfl rfl (l_nil (q_then ?_))
   refine c_cond rfl (fun h3 => ?_) (fun h3 => ?_)
   · -- h3T
    have h3b := h3
    try simp only [decide_eq_true_eq] at h3
    refine c_seq (c_region (o_assign rfl rfl (l_nil (q_then (c_ret ?_)))))
    refine q_block_ret ?_
    refine q_pass_ret ?_
    refine q_conv (L' := StR k s :: _) (fun w S => Sat.obj_mk t_1 ok_1 S) ?_
    refine qP p1 (qT (qP p1 (qT ?_)))
    exact f_ret (r_one rfl rfl) (⟨s, 111, rfl, by (unfold moveM; rw [if_neg (by omega), if_pos (by rw [← hv10]; show v10.f_Count = 18446744073709551615; assumption)]), rfl, rfl⟩) (fun w S => S)
   · -- h3F
    have h3b := h3
    try simp only [decide_eq_false_iff_not, Int.not_lt, Int.not_le] at h3
    refine c_skip (q_block (q_then (c_seq ?_)))
    have hcm : ¬ v10.m.count = maxU := by show ¬ v10.f_Count = 18446744073709551615; assumption
    refine c_region (o_move rfl rfl ?_)
    refine o_fieldAddr (q := ⟨b7, 2, none⟩) rfl rfl Try.underlying36 rfl ti3 rfl ?_
    refine l_f3 ?_
    refine o_store1 rfl rfl rfl ti3 rfl rfl ?_
    refine l_nil (q_then (c_seq (c_region ?_)))
    refine o_fieldAddr (q := ⟨b7, 3, none⟩) rfl rfl Try.underlying36 rfl ti34 rfl ?_
    refine o_load1 rfl rfl Try.underlying34 rfl (rd_mem 0 rfl rfl) ?_
    refine o_bin rfl rfl rfl (b_add (wrap_u64 (by omega) (by omega))) ?_
    refine o_fieldAddr (q := ⟨b7, 3, none⟩) rfl rfl Try.underlying36 rfl ti34 rfl ?_
    refine o_store1 rfl rfl rfl ti34 rfl rfl ?_
    refine l_nil (q_then (c_seq (c_region (o_move rfl rfl (o_move rfl rfl ?_)))))
    refine o_loadn (vs := [_, _, _, _]) rfl rfl Try.underlying36 rfl ti36 (rdn_lit 0 rfl rfl) ?_
    refine l_conv (fun w S => S.perm p4) ?_
    refine l_conv (fun w S => S.perm p1) ?_
    refine l_conv (fun w S => S.perm p4) ?_
    refine l_conv (fun w S => S.perm p4) ?_
    refine l_conv (fun w S => S.perm p4) ?_
    refine l_conv (L' := StR k s :: _) (fun w S => Sat.obj_mk t_1 ok_1 S) ?_
    refine l_f2 ?_
    refine o_call rfl cal31 rfl (set_ (k' := k') (r := (⟨v10.f_Has, ⟨v10.f_Value.a, v10.f_Value.xs, v10.f_Value.c⟩, h, (v10.f_Count + 1)⟩ : Rec)) (hlo.move (h := h) (by omega) hcm) hl) ?_
    rintro _ _ ⟨s2, hsn, hsM, rfl⟩
    refine l_nil (q_then (c_seq (c_region (o_assign rfl rfl (l_nil (q_then (c_ret (qP p1 (qT ?_)))))))))
    exact f_ret (r_one rfl rfl) (⟨s2, 0, hsn, by (unfold moveM; rw [if_neg (by omega), ← hv10, if_neg hcm, hsM]; rfl), rfl, rfl⟩) (fun w S => S)
end
section
set_option linter.unusedVariables false
set_option linter.unusedSimpArgs false
open Go.RowKit Classical
def s97 : ByteArray := ⟨#[97]⟩
theorem d97 : dflt s97 3 = 1 := by
  have h : sumK s97 = 97 := by rfl
  unfold dflt; rw [h]; rfl
theorem look_nil {n : Int} {k : ByteArray} : lookM n k [] = r0 n k := rfl
theorem spMove {s : SS} {e : Int} {s1 : SS} (h1 : s1 = ⟨3, []⟩) (h : moveM s1.n s97 2 s1.M = (e, s.M)) : e = 0 ∧ lookM 3 s97 s.M = ⟨false, [], 2, 1⟩ := by
  subst h1
  rw [show (⟨3, []⟩ : SS).n = 3 from rfl, show (⟨3, []⟩ : SS).M = [] from rfl] at h
  unfold moveM at h
  rw [if_neg (by omega), look_nil, if_neg (by show ¬ (0 : Int) = maxU; decide)] at h
  have h2 := congrArg Prod.fst h
  have h3 := congrArg Prod.snd h
  simp only at h2 h3
  refine ⟨h2.symm, ?_⟩
  rw [← h3, look_set (.inr (by show ¬ (0 : Int) + 1 = 0; omega))]
  rfl
/-- What the key that is looked at has got. -/
structure LastOk (k : ByteArray) (vs : List UInt8) (i : Nat) (s : SS) : Prop where
  n : s.n = 3
  len : s.xs.length ≤ i + 1
  look : lookM 3 k s.M = ⟨true, vs, dflt k 3, 0⟩
theorem LastOk.start {k : ByteArray} {vs : List UInt8} {s s1 : SS} (h1 : s1 = ⟨3, []⟩) (hn : s.n = s1.n) (hM : s.M = putM s1.n k vs s1.M) : LastOk k vs 0 s := by
  subst h1
  rw [show (⟨3, []⟩ : SS).n = 3 from rfl] at hn hM
  rw [show (⟨3, []⟩ : SS).M = [] from rfl] at hM
  refine ⟨hn, by rw [← M_len, hM]; exact set_len, ?_⟩
  rw [hM]; unfold putM; rw [look_set (.inl rfl), look_nil]; rfl
theorem LastOk.put {k k' : ByteArray} {vs v : List UInt8} {i : Nat} {s s2 : SS} (h : LastOk k vs i s) (hk : ¬ k' = k) (hn : s2.n = s.n) (hM : s2.M = putM s.n k' v s.M) : LastOk k vs (i + 1) s2 := by
  have h2 := h.len
  refine ⟨hn.trans h.n, by rw [← M_len, hM]; exact Nat.le_trans set_len (by rw [M_len]; omega), ?_⟩
  rw [hM]; unfold putM; rw [look_set_ne hk]; exact h.look
theorem LastOk.get {k : ByteArray} {vs : List UInt8} {i : Nat} {s : SS} {v : Rec} (h : LastOk k vs i s) (hv : v.m = lookM s.n k s.M) : v.f_Has = true ∧ v.f_Value.xs = vs ∧ v.f_Home = dflt k 3 ∧ v.f_Count = 0 := by
  rw [h.n, h.look] at hv
  exact ⟨congrArg RecM.has hv, congrArg RecM.val hv, congrArg RecM.home hv, congrArg RecM.count hv⟩
end
section
set_option linter.unusedVariables false
set_option linter.unusedSimpArgs false
open Go.RowKit Classical
section
variable {W w : World} {L : List Res}
end
theorem rds_vals {W : World} {L : List Res} {xs : List ItA} {x : ItA} (j : Nat) (h : L[j]? = some (vals xs)) (hx : x ∈ xs) : RdS W L e8 x.f_value.f_Value.a x.f_value.f_Value.xs := fun w S => by
  obtain ⟨L', S'⟩ := mem_front (List.mem_of_getElem? h) S
  obtain ⟨i, hi⟩ := List.getElem?_of_mem hx
  exact (Sat.vals_take hi S').own_rds e8_ok
end
section
set_option linter.unusedVariables false
set_option linter.unusedSimpArgs false
set_option maxRecDepth 10000
open Go.RowKit Classical
theorem rdefault_ {W : World} {F : List Res} {k : ByteArray} {n : Int} (hk : k.size ≤ 1000000) (hn9 : n < 9223372036854775808) : CS Try.prog 23 #[.string k, .int .i64 n] W (F) (fun r L' => r = .int .i64 (dflt k n) ∧ F = L') := by
 refine f_door (l0 := [(0, .string k), (1, .int .i64 n)]) Try.func23 Try.ntmps23 rfl rfl rfl ?_
 refine c_seq (c_region (o_assign rfl rfl (l_nil (q_then (c_seq (c_seq (c_region (o_move rfl rfl ?_))))))))
 refine o_bin rfl rfl rfl b_lss ?_
 refine l_nil (q_then ?_)
 refine c_cond rfl (fun h1 => ?_) (fun h1 => ?_)
 · -- h1T
  have h1b := h1
  try simp only [decide_eq_true_eq] at h1
  refine c_seq (c_region (o_assign rfl rfl (l_nil (q_then (c_ret (q_pass_ret ?_))))))
  exact f_ret (r_one rfl rfl) (⟨by unfold dflt; rw [if_pos (by omega)], rfl⟩) (fun w S => S)
 · -- h1F
  have h1b := h1
  try simp only [decide_eq_false_iff_not, Int.not_lt, Int.not_le] at h1
  refine c_skip (q_then (c_seq (c_region (o_assign rfl rfl (l_nil (q_then (c_seq (c_seq (c_region ?_)))))))))
  refine o_assign rfl rfl (l_nil (q_then (c_block ?_)))
  refine c_loop (α := Nat) (fun z => [(0, .string k), (1, .int .i64 n), (5, .int .u64 ((sumI k z : Nat) : Int)), (6, .int .i64 (z : Int))]) (fun z => F) (fun z => z ≤ k.size) (fun z => k.size - z) (0) (by exact Nat.zero_le _) ⟨vr, vr, vr, vr, trivial⟩ (fun w S => S) ?_
  rintro i hi
  try dsimp only at *
  refine c_seq (c_seq (c_region (o_move rfl rfl (o_move rfl rfl ?_))))
  refine o_lenStr rfl rfl Try.underlying9 ?_
  refine o_bin rfl rfl rfl b_lss ?_
  refine l_nil (q_then ?_)
  refine c_cond rfl (fun h2 => ?_) (fun h2 => ?_)
  · -- h2T
   have h2b := h2
   try simp only [decide_eq_true_eq] at h2
   refine c_skip (q_then (c_seq (c_block ?_)))
   have hbd := sumI_le k i
   refine c_region (o_move rfl rfl (o_move rfl rfl (o_move rfl rfl ?_)))
   obtain ⟨x18, hx18⟩ : ∃ b, (k).data.toList[((i : Int)).toNat]? = some b := ⟨_, List.getElem?_eq_getElem (by (try simp only [Array.length_toList]); first | omega | (show _ < ByteArray.size _; omega))⟩
   refine o_strIndex rfl rfl rfl Try.underlying9 (by omega) hx18 ?_
   have hx18' : k.data.toList[i]? = some x18 := hx18
   have hbb := x18.toNat_lt
   refine o_int rfl rfl Try.underlying5 Try.underlying34 (wrap_u64 (by omega) (by omega)) ?_
   refine o_bin rfl rfl rfl (b_add (show IntKind.u64.wrap (((sumI k i : Nat) : Int) + (x18.toNat : Int)) = ((sumI k (i + 1) : Nat) : Int) from by rw [wrap_u64 (by omega) (by omega), sumI_on hx18', Int.natCast_add])) ?_
   refine o_assign rfl rfl (l_nil (q_block (q_then (c_region (o_move rfl rfl ?_)))))
   refine o_bin rfl rfl rfl (b_add (wrap_i64 (by omega) (by omega))) ?_
   refine o_assign rfl rfl (l_nil ?_)
   exact q_round (i + 1) (by omega) (by (try dsimp only); omega) ⟨vr, vr, vr, vr, trivial⟩ (fun w S => S)
  · -- h2F
   have h2b := h2
   try simp only [decide_eq_false_iff_not, Int.not_lt, Int.not_le] at h2
   refine c_exit (q_pass_exit (q_pass_exit (q_hit (q_then (c_seq ?_)))))
   have hdd := dflt_in (k := k) (n := n) (by omega)
   have hbd := sumI_le k i
   have hfin : (((sumI k i : Nat) : Int)).tmod n = dflt k n := by rw [Int.tmod_eq_emod_of_nonneg (by omega), sumI_all (by omega)]; unfold dflt; rw [if_neg (by omega)]
   refine c_region (o_move rfl rfl (o_move rfl rfl ?_))
   refine o_int rfl rfl Try.underlying3 Try.underlying34 (wrap_u64 (by omega) (by omega)) ?_
   refine o_bin rfl rfl rfl (b_rem (by omega) hfin) ?_
   refine o_int rfl rfl Try.underlying34 Try.underlying3 (wrap_i64 (by omega) (by omega)) ?_
   refine o_assign rfl rfl (l_nil (q_then (c_ret ?_)))
   exact f_ret (r_one rfl rfl) (⟨rfl, rfl⟩) (fun w S => S)
end
section
set_option linter.unusedVariables false
set_option linter.unusedSimpArgs false
set_option maxRecDepth 10000
open Go.RowKit Classical
def RfR (m : Nat) (s : SS) : Res := obj (fun _ : Option Addr × Nat => OkS s ∧ Srt ItA.f_key strlt s.xs) fun x => [blk m (.cells #[.int .i64 s.n, .slice x.1 (s.xs).length x.2] 54 (0, 0)), row e_Row.T e_Row.sz x.1 (s.xs).length x.2 (flat e_Row s.xs), vals s.xs]
theorem RfR_ok {W w : World} {L : List Res} {m : Nat} {s : SS} (S : Sat W w (RfR m s :: L)) : OkS s ∧ Srt ItA.f_key strlt s.xs := by
  obtain ⟨_, h, _⟩ := S.obj_open
  exact h
theorem rnew_ {W : World} {F : List Res} {n : Int} (h1n : 1 ≤ n) (hn3 : n ≤ 3) : CS Try.prog 15 #[.int .i64 n] W (F) (fun r L' => ∃ m : Nat, r = .pointer (some ⟨m, 0, none⟩) ∧ L' = RfR m ⟨n, []⟩ :: F) := by
 refine f_door (l0 := [(0, .int .i64 n)]) Try.func15 Try.ntmps15 rfl rfl rfl ?_
 refine c_seq (c_region (o_assign rfl rfl (l_nil (q_then (c_seq (c_region (o_move rfl rfl ?_)))))))
 refine o_build rfl sp54 ti54 rfl ((fill_cons (cells' := [.int .i64 n, .slice none 0 0]) rfl rfl rfl rfl fill_nil)) ?_
 refine o_box rfl rfl fun b5 => ?_
 refine o_assign rfl rfl (l_nil (q_then (c_ret ?_)))
 exact f_ret (r_one rfl rfl) (⟨b5, rfl, rfl⟩) (fun w S => Sat.obj_mk (none, 0) ⟨OkS.new h1n hn3, List.Pairwise.nil⟩ (((Sat.vals_nil S).own_nil).perm p2))
end
section
set_option linter.unusedVariables false
set_option linter.unusedSimpArgs false
open Go.RowKit Classical
theorem rec_iff {a b : Rec} : a.m = b.m ↔ a.f_Has = b.f_Has ∧ a.f_Value.xs = b.f_Value.xs ∧ a.f_Home = b.f_Home ∧ a.f_Count = b.f_Count := by
  unfold Rec.m
  constructor
  · intro h
    injection h with h1 h2 h3 h4
    exact ⟨h1, h2, h3, h4⟩
  · rintro ⟨h1, h2, h3, h4⟩
    rw [h1, h2, h3, h4]
theorem same_on {xs ys : List ItA} {i : Nat} {x y : ItA} (h : (xs.take i).map proj = (ys.take i).map proj) (hx : xs[i]? = some x) (hy : ys[i]? = some y) (hk : x.f_key = y.f_key) (hm : x.f_value.m = y.f_value.m) : (xs.take (i + 1)).map proj = (ys.take (i + 1)).map proj := by
  rw [take_snoc' hx, take_snoc' hy, List.map_append, List.map_append, h]
  unfold proj
  simp [hk, hm]
theorem same_no {xs ys : List ItA} {i : Nat} {x y : ItA} (hx : xs[i]? = some x) (hy : ys[i]? = some y) (hn : ¬ (x.f_key = y.f_key ∧ x.f_value.m = y.f_value.m)) : ¬ xs.map proj = ys.map proj := fun h => by
  have h2 : (xs.map proj)[i]? = (ys.map proj)[i]? := by rw [h]
  rw [List.getElem?_map, List.getElem?_map, hx, hy] at h2
  have h3 : proj x = proj y := Option.some.inj h2
  exact hn ⟨congrArg Prod.fst h3, congrArg Prod.snd h3⟩
/-- The rows so far of a pass over the tree. -/
structure PassO (most : Int) (pre O : List ItA) : Prop where
  is : O.map proj = (pre.filter fun y => y.f_value.f_Has).map proj
  le : O = [] ∨ (O.length : Int) ≤ most
theorem PassO.start {most : Int} : PassO most [] [] := ⟨rfl, .inl rfl⟩
theorem PassO.no {most : Int} {pre O : List ItA} {x : ItA} (h : PassO most pre O) (h1 : x.f_value.f_Has = false) : PassO most (pre ++ [x]) O :=
  ⟨by rw [List.filter_append, List.filter_cons_of_neg (by simp [h1]), List.filter_nil, List.append_nil, h.is], h.le⟩
theorem PassO.len {most : Int} {pre O : List ItA} (h : PassO most pre O) : O.length ≤ pre.length := by
  have h1 := congrArg List.length h.is
  rw [List.length_map, List.length_map] at h1
  have h2 := List.length_filter_le (fun y : ItA => y.f_value.f_Has) pre
  omega
theorem pre_len {α : Type} {xs pre : List α} {x : α} (h : pre ++ [x] <+: xs) : pre.length < xs.length := by
  have h1 := h.length_le
  rw [List.length_append] at h1
  simp only [List.length_cons, List.length_nil] at h1
  omega
theorem pre_in {α : Type} {pre xs : List α} {x : α} (h : pre ++ [x] <+: xs) : x ∈ xs := by
  obtain ⟨t, rfl⟩ := h
  simp
section
variable {W w : World} {L : List Res}
theorem Sat.vals_app {xs : List ItA} {x : ItA} (S : Sat W w (vR x :: vals xs :: L)) : Sat W w (vals (xs ++ [x]) :: L) :=
  Sat.vals_perm (List.perm_append_comm (l₁ := [x]) (l₂ := xs)) (Sat.stars_uncons (A := vR x) (Rs := xs.map vR) S)
end
end
section
set_option linter.unusedVariables false
set_option linter.unusedSimpArgs false
set_option maxRecDepth 10000
open Go.RowKit Classical
theorem srec_ {W : World} {F : List Res} {a b : Rec} (ha : RdS W F e8 a.f_Value.a a.f_Value.xs) (hb : RdS W F e8 b.f_Value.a b.f_Value.xs) : CS Try.prog 19 #[.agg #[.bool a.f_Has, .slice a.f_Value.a (a.f_Value.xs).length a.f_Value.c, .int .i64 a.f_Home, .int .u64 a.f_Count], .agg #[.bool b.f_Has, .slice b.f_Value.a (b.f_Value.xs).length b.f_Value.c, .int .i64 b.f_Home, .int .u64 b.f_Count]] W (F) (fun r L' => ∃ bb : Bool, (bb = true ↔ a.m = b.m) ∧ r = .bool bb ∧ F = L') := by
 refine f_door (l0 := [(0, .agg #[.bool a.f_Has, .slice a.f_Value.a (a.f_Value.xs).length a.f_Value.c, .int .i64 a.f_Home, .int .u64 a.f_Count]), (1, .agg #[.bool b.f_Has, .slice b.f_Value.a (b.f_Value.xs).length b.f_Value.c, .int .i64 b.f_Home, .int .u64 b.f_Count])]) Try.func19 Try.ntmps19 rfl rfl rfl ?_
 refine c_seq (c_region ?_)
 refine o_box rfl rfl fun b2 => ?_
 refine o_box rfl rfl fun b3 => ?_
 refine o_assign rfl rfl (l_nil (q_then (c_seq (c_region ?_))))
 refine o_fieldAddr (q := ⟨b2, 0, none⟩) rfl rfl Try.underlying36 rfl ti4 rfl ?_
 refine o_load1 rfl rfl Try.underlying4 rfl (rd_mem 1 rfl rfl) ?_
 refine o_fieldAddr (q := ⟨b3, 0, none⟩) rfl rfl Try.underlying36 rfl ti4 rfl ?_
 refine o_load1 rfl rfl Try.underlying4 rfl (rd_mem 0 rfl rfl) ?_
 refine o_bin rfl rfl rfl (b_beq Try.underlying4 _ _) ?_
 refine o_move rfl rfl ?_
 refine l_split (t := 10) rfl (fun h1 => ?_) (fun h1 => ?_)
 · -- h1T
  have h1b := h1
  try simp only [decide_eq_true_eq, decide_eq_false_iff_not, Bool.not_eq_eq_eq_not, Bool.not_true, Bool.not_false, Bool.not_eq_true', Bool.not_eq_false', Int.not_lt, Int.not_le, Bool.or_eq_true, Bool.and_eq_true] at h1
  refine o_yes rfl rfl rfl ?_
  refine o_fieldAddr (q := ⟨b2, 1, none⟩) rfl rfl Try.underlying36 rfl ti23 rfl ?_
  refine o_yes rfl rfl rfl ?_
  refine o_load1 rfl rfl Try.underlying23 rfl (rd_mem 1 rfl rfl) ?_
  refine o_yes rfl rfl rfl ?_
  refine o_bytesStr (e := e8) rfl rfl rfl Try.underlying23 Try.underlying5 Try.underlying9 (rds_c (rds_c ha)) ?_
  refine o_yes rfl rfl rfl ?_
  refine o_fieldAddr (q := ⟨b3, 1, none⟩) rfl rfl Try.underlying36 rfl ti23 rfl ?_
  refine o_yes rfl rfl rfl ?_
  refine o_load1 rfl rfl Try.underlying23 rfl (rd_mem 0 rfl rfl) ?_
  refine o_yes rfl rfl rfl ?_
  refine o_bytesStr (e := e8) rfl rfl rfl Try.underlying23 Try.underlying5 Try.underlying9 (rds_c (rds_c hb)) ?_
  refine o_yes rfl rfl rfl ?_
  refine o_bin rfl rfl rfl b_seql ?_
  refine o_pick_true rfl rfl rfl (o_move rfl rfl ?_)
  refine l_split (t := 19) rfl (fun h2 => ?_) (fun h2 => ?_)
  · -- h2T
   have h2b := h2
   try simp only [decide_eq_true_eq] at h2
   refine o_yes rfl rfl rfl ?_
   refine o_fieldAddr (q := ⟨b2, 2, none⟩) rfl rfl Try.underlying36 rfl ti3 rfl ?_
   refine o_yes rfl rfl rfl ?_
   refine o_load1 rfl rfl Try.underlying3 rfl (rd_mem 1 rfl rfl) ?_
   refine o_yes rfl rfl rfl ?_
   refine o_fieldAddr (q := ⟨b3, 2, none⟩) rfl rfl Try.underlying36 rfl ti3 rfl ?_
   refine o_yes rfl rfl rfl ?_
   refine o_load1 rfl rfl Try.underlying3 rfl (rd_mem 0 rfl rfl) ?_
   refine o_yes rfl rfl rfl ?_
   refine o_bin rfl rfl rfl b_eql ?_
   refine o_pick_true rfl rfl rfl (o_move rfl rfl ?_)
   refine l_split (t := 26) rfl (fun h3 => ?_) (fun h3 => ?_)
   · -- h3T
    have h3b := h3
    try simp only [decide_eq_true_eq] at h3
    refine o_yes rfl rfl rfl ?_
    refine o_fieldAddr (q := ⟨b2, 3, none⟩) rfl rfl Try.underlying36 rfl ti34 rfl ?_
    refine o_yes rfl rfl rfl ?_
    refine o_load1 rfl rfl Try.underlying34 rfl (rd_mem 1 rfl rfl) ?_
    refine o_yes rfl rfl rfl ?_
    refine o_fieldAddr (q := ⟨b3, 3, none⟩) rfl rfl Try.underlying36 rfl ti34 rfl ?_
    refine o_yes rfl rfl rfl ?_
    refine o_load1 rfl rfl Try.underlying34 rfl (rd_mem 0 rfl rfl) ?_
    refine o_yes rfl rfl rfl ?_
    refine o_bin rfl rfl rfl b_eql ?_
    refine o_pick_true rfl rfl rfl (o_assign rfl rfl (l_nil (q_then (c_ret (qT (qT ?_))))))
    exact f_ret (r_one rfl rfl) (⟨decide (a.f_Count = b.f_Count), (by rw [rec_iff]; simp_all [bts_eq]), rfl, rfl⟩) (fun w S => S)
   · -- h3F
    have h3b := h3
    try simp only [decide_eq_false_iff_not, Int.not_lt, Int.not_le] at h3
    refine o_no rfl rfl rfl rfl (o_no rfl rfl rfl rfl (o_no rfl rfl rfl rfl (o_no rfl rfl rfl rfl (o_no rfl rfl rfl rfl (o_pick_false rfl rfl rfl (o_assign rfl rfl (l_nil (q_then (c_ret ?_)))))))))
    refine qT (qT ?_)
    exact f_ret (r_one rfl rfl) (⟨false, (by rw [rec_iff]; simp_all [bts_eq]), rfl, rfl⟩) (fun w S => S)
  · -- h2F
   have h2b := h2
   try simp only [decide_eq_false_iff_not, Int.not_lt, Int.not_le] at h2
   refine o_no rfl rfl rfl rfl (o_no rfl rfl rfl rfl (o_no rfl rfl rfl rfl (o_no rfl rfl rfl rfl (o_no rfl rfl rfl rfl (o_pick_false rfl rfl rfl (o_move rfl rfl (o_no rfl rfl rfl rfl (o_no rfl rfl rfl rfl (o_no rfl rfl rfl rfl ?_)))))))))
   refine o_no rfl rfl rfl rfl (o_no rfl rfl rfl rfl (o_pick_false rfl rfl rfl (o_assign rfl rfl (l_nil (q_then (c_ret (qT (qT ?_))))))))
   exact f_ret (r_one rfl rfl) (⟨false, (by rw [rec_iff]; simp_all [bts_eq]), rfl, rfl⟩) (fun w S => S)
 · -- h1F
  have h1b := h1
  try simp only [decide_eq_true_eq, decide_eq_false_iff_not, Bool.not_eq_eq_eq_not, Bool.not_true, Bool.not_false, Bool.not_eq_true', Bool.not_eq_false', Int.not_lt, Int.not_le, Bool.or_eq_true, Bool.and_eq_true] at h1
  refine o_no rfl rfl rfl rfl (o_no rfl rfl rfl rfl (o_no rfl rfl rfl rfl (o_no rfl rfl rfl rfl (o_no rfl rfl rfl rfl (o_no rfl rfl rfl rfl (o_no rfl rfl rfl rfl (o_pick_false rfl rfl rfl (o_move rfl rfl (o_no rfl rfl rfl rfl ?_)))))))))
  refine o_no rfl rfl rfl rfl (o_no rfl rfl rfl rfl (o_no rfl rfl rfl rfl (o_no rfl rfl rfl rfl (o_pick_false rfl rfl rfl (o_move rfl rfl (o_no rfl rfl rfl rfl (o_no rfl rfl rfl rfl (o_no rfl rfl rfl rfl (o_no rfl rfl rfl rfl ?_)))))))))
  refine o_no rfl rfl rfl rfl (o_pick_false rfl rfl rfl (o_assign rfl rfl (l_nil (q_then (c_ret (qT (qT ?_)))))))
  exact f_ret (r_one rfl rfl) (⟨false, (by rw [rec_iff]; simp_all [bts_eq]), rfl, rfl⟩) (fun w S => S)
theorem same_ {W : World} {F : List Res} {xs ys : List ItA} {a b : Option Addr} {c c2 : Nat} (hs : RdS W F e_Row a xs) (ht : RdS W F e_Row b ys) (va : ∀ x ∈ xs, RdS W F e8 x.f_value.f_Value.a x.f_value.f_Value.xs) (vb : ∀ x ∈ ys, RdS W F e8 x.f_value.f_Value.a x.f_value.f_Value.xs) (hl : xs.length ≤ 1000000) : CS Try.prog 20 #[.slice a (xs).length c, .slice b (ys).length c2] W (F) (fun r L' => ∃ bb : Bool, (bb = true ↔ xs.map proj = ys.map proj) ∧ r = .bool bb ∧ F = L') := by
 refine f_door (l0 := [(0, .slice a (xs).length c), (1, .slice b (ys).length c2)]) Try.func20 Try.ntmps20 rfl rfl rfl ?_
 refine c_seq (c_region (o_assign rfl rfl (l_nil (q_then (c_seq (c_seq (c_region (o_move rfl rfl ?_))))))))
 refine o_len rfl rfl Try.underlying43 ?_
 refine o_move rfl rfl ?_
 refine o_len rfl rfl Try.underlying43 ?_
 refine o_bin rfl rfl rfl b_neq ?_
 refine l_nil (q_then ?_)
 refine c_cond rfl (fun h1 => ?_) (fun h1 => ?_)
 · -- h1T
  have h1b := h1
  try simp only [Bool.not_eq_true', decide_eq_false_iff_not, Int.not_lt, Int.not_le] at h1
  refine c_seq (c_region (o_assign rfl rfl (l_nil (q_then (c_ret (q_pass_ret ?_))))))
  exact f_ret (r_one rfl rfl) (⟨false, (by refine ⟨fun h9 => (by cases h9), fun h9 => ?_⟩; have h8 := congrArg List.length h9; rw [List.length_map, List.length_map] at h8; omega), rfl, rfl⟩) (fun w S => S)
 · -- h1F
  have h1b := h1
  try simp only [Bool.not_eq_false', decide_eq_true_eq] at h1
  refine c_skip (q_then (c_seq (c_seq (c_region (o_assign rfl rfl (l_nil (q_then (c_block ?_))))))))
  refine c_loop (α := Nat) (fun z => [(0, .slice a (xs).length c), (1, .slice b (ys).length c2), (5, .int .i64 (z : Int))]) (fun z => F) (fun z => z ≤ xs.length ∧ (xs.take z).map proj = (ys.take z).map proj) (fun z => xs.length - z) (0) (by exact ⟨Nat.zero_le _, rfl⟩) ⟨vr, vr, vr, trivial⟩ (fun w S => S) ?_
  rintro i ⟨hi, hmp⟩
  try dsimp only at *
  refine c_seq (c_seq (c_region (o_move rfl rfl (o_move rfl rfl ?_))))
  refine o_len rfl rfl Try.underlying43 ?_
  refine o_bin rfl rfl rfl b_lss ?_
  refine l_nil (q_then ?_)
  refine c_cond rfl (fun h2 => ?_) (fun h2 => ?_)
  · -- h2T
   have h2b := h2
   try simp only [decide_eq_true_eq] at h2
   refine c_skip (q_then (c_seq (c_block (c_seq ?_))))
   refine c_fact (p := ∃ ad, a = some ad) (rds_some (e := e_Row) (xs := xs) hs (by intro h0; have h8 := congrArg List.length h0; simp only [List.length_nil] at h8; omega)) ?_
   rintro ⟨ad1, ead1⟩
   refine c_fact (p := ∃ ad, b = some ad) (rds_some (e := e_Row) (xs := ys) ht (by intro h0; have h8 := congrArg List.length h0; simp only [List.length_nil] at h8; omega)) ?_
   rintro ⟨ad2, ead2⟩
   refine c_heldF [] (F) (by kernel_rfl) ?_
   refine h_take 0 rfl rfl (by kernel_rfl) (by kernel_rfl) (by kernel_rfl) (fun L0 => v_move rfl rfl) ?_
   refine h_take 1 rfl rfl (by kernel_rfl) (by kernel_rfl) (by kernel_rfl) (fun L0 => v_move rfl rfl) ?_
   refine h_take 2 rfl rfl (by kernel_rfl) (by kernel_rfl) (by kernel_rfl) (fun L0 => v_indexK e_Row_ok ead1 rfl rfl rfl Try.underlying43 (by omega) (by omega)) ?_
   obtain ⟨x19, hx19⟩ : ∃ x, (xs)[((i : Int)).toNat]? = some x := ⟨_, List.getElem?_eq_getElem (by omega)⟩
   refine h_take 3 rfl rfl (by kernel_rfl) (by kernel_rfl) (by kernel_rfl) (fun L0 => v_fieldAddr rfl rfl Try.underlying49 rfl ti9 (Addr.add_add' _ _ _)) ?_
   refine h_take 4 rfl rfl (by kernel_rfl) (by kernel_rfl) (by kernel_rfl) (fun L0 => v_load1 rfl rfl Try.underlying9 rfl (rd_sl e_Row_ok ead1 (rds_app hs) hx19 rfl)) ?_
   refine h_take 5 rfl rfl (by kernel_rfl) (by kernel_rfl) (by kernel_rfl) (fun L0 => v_move rfl rfl) ?_
   refine h_take 6 rfl rfl (by kernel_rfl) (by kernel_rfl) (by kernel_rfl) (fun L0 => v_move rfl rfl) ?_
   refine h_take 7 rfl rfl (by kernel_rfl) (by kernel_rfl) (by kernel_rfl) (fun L0 => v_indexK e_Row_ok ead2 rfl rfl rfl Try.underlying43 (by omega) (by omega)) ?_
   obtain ⟨x24, hx24⟩ : ∃ x, (ys)[((i : Int)).toNat]? = some x := ⟨_, List.getElem?_eq_getElem (by omega)⟩
   refine h_take 8 rfl rfl (by kernel_rfl) (by kernel_rfl) (by kernel_rfl) (fun L0 => v_fieldAddr rfl rfl Try.underlying49 rfl ti9 (Addr.add_add' _ _ _)) ?_
   refine h_take 9 rfl rfl (by kernel_rfl) (by kernel_rfl) (by kernel_rfl) (fun L0 => v_load1 rfl rfl Try.underlying9 rfl (rd_sl e_Row_ok ead2 (rds_app ht) hx24 rfl)) ?_
   refine h_take 10 rfl rfl (by kernel_rfl) (by kernel_rfl) (by kernel_rfl) (fun L0 => v_bin rfl rfl rfl b_sneq) ?_
   refine h_take 11 rfl rfl (by kernel_rfl) (by kernel_rfl) (by kernel_rfl) (fun L0 => v_move rfl rfl) ?_
   refine h_split (t := 28) rfl (fun h3 => ?_) (fun h3 => ?_)
   · -- h3T
    have h3b := h3
    try simp only [Bool.not_eq_true', decide_eq_false_iff_not, Int.not_lt, Int.not_le] at h3
    refine h_take_no 12 rfl rfl rfl rfl rfl (by kernel_rfl) (by kernel_rfl) (by kernel_rfl) ?_
    refine h_take_no 13 rfl rfl rfl rfl rfl (by kernel_rfl) (by kernel_rfl) (by kernel_rfl) ?_
    refine h_take_no 14 rfl rfl rfl rfl rfl (by kernel_rfl) (by kernel_rfl) (by kernel_rfl) ?_
    refine h_take_no 15 rfl rfl rfl rfl rfl (by kernel_rfl) (by kernel_rfl) (by kernel_rfl) ?_
    refine h_take_no 16 rfl rfl rfl rfl rfl (by kernel_rfl) (by kernel_rfl) (by kernel_rfl) ?_
    refine h_take_no 17 rfl rfl rfl rfl rfl (by kernel_rfl) (by kernel_rfl) (by kernel_rfl) ?_
    refine h_take_no 18 rfl rfl rfl rfl rfl (by kernel_rfl) (by kernel_rfl) (by kernel_rfl) ?_
    refine h_take_no 19 rfl rfl rfl rfl rfl (by kernel_rfl) (by kernel_rfl) (by kernel_rfl) ?_
    refine h_take_no 20 rfl rfl rfl rfl rfl (by kernel_rfl) (by kernel_rfl) (by kernel_rfl) ?_
    refine h_take_no 21 rfl rfl rfl rfl rfl (by kernel_rfl) (by kernel_rfl) (by kernel_rfl) ?_
    refine h_take_no 22 rfl rfl rfl rfl rfl (by kernel_rfl) (by kernel_rfl) (by kernel_rfl) ?_
    refine h_take_no 23 rfl rfl rfl rfl rfl (by kernel_rfl) (by kernel_rfl) (by kernel_rfl) ?_
    refine h_take 24 rfl rfl (by kernel_rfl) (by kernel_rfl) (by kernel_rfl) (fun L0 => v_pick_true rfl rfl rfl) ?_
    refine h_done (by kernel_rfl) ?_
    refine q_conv (L' := F) (fun w S => S.perm List.perm_append_comm) ?_
    refine q_then (c_true rfl (c_seq (c_region (o_assign rfl rfl (l_nil (q_then (c_ret ?_)))))))
    refine q_block_ret ?_
    refine q_pass_ret (q_pass_ret ?_)
    refine q_block_ret ?_
    refine q_pass_ret ?_
    exact f_ret (r_one rfl rfl) (⟨false, (by refine ⟨fun h9 => (by cases h9), fun h9 => absurd h9 (same_no (show xs[i]? = some x19 from hx19) (show ys[i]? = some x24 from hx24) (by rintro ⟨h7, h8⟩; first | (exact absurd h7 (by assumption)) | (rw [e31, e36] at hbb39; have h6 := hbb39.2 h8; simp_all)))⟩), rfl, rfl⟩) (fun w S => S)
   · -- h3F
    have h3b := h3
    try simp only [Bool.not_eq_false', decide_eq_true_eq] at h3
    refine h_take_yes 12 rfl rfl rfl rfl rfl (by kernel_rfl) (by kernel_rfl) (by kernel_rfl) (fun L0 => v_move rfl rfl) ?_
    refine h_take_yes 13 rfl rfl rfl rfl rfl (by kernel_rfl) (by kernel_rfl) (by kernel_rfl) (fun L0 => v_move rfl rfl) ?_
    refine h_take_yes 14 rfl rfl rfl rfl rfl (by kernel_rfl) (by kernel_rfl) (by kernel_rfl) (fun L0 => v_indexK e_Row_ok ead1 rfl rfl rfl Try.underlying43 (by omega) (by omega)) ?_
    obtain ⟨x31, hx31⟩ : ∃ x, (xs)[((i : Int)).toNat]? = some x := ⟨_, List.getElem?_eq_getElem (by omega)⟩
    have e31 : x31 = x19 := by rw [hx31] at hx19; exact Option.some.inj hx19
    refine h_take_yes 15 rfl rfl rfl rfl rfl (by kernel_rfl) (by kernel_rfl) (by kernel_rfl) (fun L0 => v_fieldAddr rfl rfl Try.underlying49 rfl ti36 (Addr.add_add' _ _ _)) ?_
    refine h_take_yes 16 rfl rfl rfl rfl rfl (by kernel_rfl) (by kernel_rfl) (by kernel_rfl) (fun L0 => v_loadn (vs := [.bool x31.f_value.f_Has, .slice x31.f_value.f_Value.a (x31.f_value.f_Value.xs).length x31.f_value.f_Value.c, .int .i64 x31.f_value.f_Home, .int .u64 x31.f_value.f_Count]) rfl rfl Try.underlying36 rfl ti36 (rdn_slo (n := 4) e_Row_ok ead1 (rds_app hs) hx31 rfl)) ?_
    refine h_take_yes 17 rfl rfl rfl rfl rfl (by kernel_rfl) (by kernel_rfl) (by kernel_rfl) (fun L0 => v_move rfl rfl) ?_
    refine h_take_yes 18 rfl rfl rfl rfl rfl (by kernel_rfl) (by kernel_rfl) (by kernel_rfl) (fun L0 => v_move rfl rfl) ?_
    refine h_take_yes 19 rfl rfl rfl rfl rfl (by kernel_rfl) (by kernel_rfl) (by kernel_rfl) (fun L0 => v_indexK e_Row_ok ead2 rfl rfl rfl Try.underlying43 (by omega) (by omega)) ?_
    obtain ⟨x36, hx36⟩ : ∃ x, (ys)[((i : Int)).toNat]? = some x := ⟨_, List.getElem?_eq_getElem (by omega)⟩
    have e36 : x36 = x24 := by rw [hx36] at hx24; exact Option.some.inj hx24
    refine h_take_yes 20 rfl rfl rfl rfl rfl (by kernel_rfl) (by kernel_rfl) (by kernel_rfl) (fun L0 => v_fieldAddr rfl rfl Try.underlying49 rfl ti36 (Addr.add_add' _ _ _)) ?_
    refine h_take_yes 21 rfl rfl rfl rfl rfl (by kernel_rfl) (by kernel_rfl) (by kernel_rfl) (fun L0 => v_loadn (vs := [.bool x36.f_value.f_Has, .slice x36.f_value.f_Value.a (x36.f_value.f_Value.xs).length x36.f_value.f_Value.c, .int .i64 x36.f_value.f_Home, .int .u64 x36.f_value.f_Count]) rfl rfl Try.underlying36 rfl ti36 (rdn_slo (n := 4) e_Row_ok ead2 (rds_app ht) hx36 rfl)) ?_
    refine h_one 22 rfl (by kernel_rfl) ?_
    refine l_conv (L' := F) (fun w S => S.perm List.perm_append_comm) ?_
    refine o_yes rfl rfl rfl ?_
    refine o_call rfl cal19 rfl (srec_ (a := x31.f_value) (b := x36.f_value) (va x31 (List.mem_of_getElem? hx31)) (vb x36 (List.mem_of_getElem? hx36))) ?_
    rintro _ _ ⟨bb39, hbb39, rfl, rfl⟩
    refine l_nil ?_
    refine q_conv (L' := (F) ++ []) (fun w S => S.perm (List.perm_append_comm (l₁ := []) (l₂ := F))) ?_
    refine h_next ?_
    refine h_take_yes 23 rfl rfl rfl rfl rfl (by kernel_rfl) (by kernel_rfl) (by kernel_rfl) (fun L0 => v_not rfl rfl) ?_
    refine h_take 24 rfl rfl (by kernel_rfl) (by kernel_rfl) (by kernel_rfl) (fun L0 => v_pick_false rfl rfl rfl) ?_
    refine h_done (by kernel_rfl) ?_
    refine q_conv (L' := F) (fun w S => S.perm List.perm_append_comm) ?_
    refine q_then ?_
    refine c_cond rfl (fun h4 => ?_) (fun h4 => ?_)
    · -- h4T
     have h4b := h4
     try simp only [decide_eq_true_eq, decide_eq_false_iff_not, Bool.not_eq_eq_eq_not, Bool.not_true, Bool.not_false, Bool.not_eq_true', Bool.not_eq_false', Int.not_lt, Int.not_le, Bool.or_eq_true, Bool.and_eq_true] at h4
     refine c_seq (c_region (o_assign rfl rfl (l_nil (q_then (c_ret ?_)))))
     refine q_block_ret ?_
     refine q_pass_ret (q_pass_ret ?_)
     refine q_block_ret ?_
     refine q_pass_ret ?_
     exact f_ret (r_one rfl rfl) (⟨false, (by refine ⟨fun h9 => (by cases h9), fun h9 => absurd h9 (same_no (show xs[i]? = some x19 from hx19) (show ys[i]? = some x24 from hx24) (by rintro ⟨h7, h8⟩; first | (exact absurd h7 (by assumption)) | (rw [e31, e36] at hbb39; have h6 := hbb39.2 h8; simp_all)))⟩), rfl, rfl⟩) (fun w S => S)
    · -- h4F
     have h4b := h4
     try simp only [decide_eq_true_eq, decide_eq_false_iff_not, Bool.not_eq_eq_eq_not, Bool.not_true, Bool.not_false, Bool.not_eq_true', Bool.not_eq_false', Int.not_lt, Int.not_le, Bool.or_eq_true, Bool.and_eq_true] at h4
     refine c_skip (q_block (q_then (c_region (o_move rfl rfl ?_))))
     refine o_bin rfl rfl rfl (b_add (wrap_i64 (by omega) (by omega))) ?_
     refine o_assign rfl rfl (l_nil ?_)
     exact q_round (i + 1) (by exact ⟨by omega, same_on hmp (show xs[i]? = some x19 from hx19) (show ys[i]? = some x24 from hx24) (by assumption) (by rw [e31, e36] at hbb39; exact hbb39.1 (by simp_all))⟩) (by (try dsimp only); omega) ⟨vr, vr, vr, trivial⟩ (fun w S => S)
  · -- h2F
   have h2b := h2
   try simp only [decide_eq_false_iff_not, Int.not_lt, Int.not_le] at h2
   refine c_exit (q_pass_exit (q_pass_exit (q_hit (q_then (c_seq (c_region (o_assign rfl rfl (l_nil (q_then ?_)))))))))
   refine c_ret ?_
   exact f_ret (r_one rfl rfl) (⟨true, (by refine ⟨fun _ => ?_, fun _ => rfl⟩; rw [List.take_of_length_le (by omega), List.take_of_length_le (by omega)] at hmp; exact hmp), rfl, rfl⟩) (fun w S => S)
end
section
set_option linter.unusedVariables false
set_option linter.unusedSimpArgs false
set_option maxRecDepth 10000
open Go.RowKit Classical
set_option maxHeartbeats 1000000 in
theorem rows6_ {W : World} {F : List Res} {k : Nat} {s : SS} (hl : s.xs.length ≤ 1000000) : CS Try.prog 22 #[.pointer (some ⟨k, 0, none⟩)] W (StR k s :: F) (fun r L' => ∃ (ys : List ItA) (a' : Option Addr) (c' : Nat), ys.map proj = s.M ∧ r = .slice a' ys.length c' ∧ L' = row e_Row.T e_Row.sz a' (ys).length c' (flat e_Row ys) :: vals ys :: StR k s :: F) := by
 refine f_door (l0 := [(0, .pointer (some ⟨k, 0, none⟩))]) Try.func22 Try.ntmps22 rfl rfl rfl ?_
 refine c_seq (c_region ?_)
 refine o_alloc rfl ti43 fun b2 => ?_
 refine l_nil (q_then (c_seq (c_seq (cP p1 ?_))))
 refine c_obj ?_
 rintro t_1 ok_1
 refine c_conv (L' := blk k (.cells #[.int .i64 s.n, .pointer (some ⟨t_1, 0, none⟩)] 65 (0, 0)) :: treeR e_ItA eN99 103 105 ItA.f_key strlt t_1 s.xs :: vals s.xs :: _) (fun w S => S) ?_
 refine c_nilrow e_Row ?_
 refine c_conv (L' := vals ([] : List ItA) :: _) (fun w S => Sat.vals_nil S) ?_
 refine c_region (o_move rfl rfl (o_nil rfl rfl ?_))
 refine o_fieldAddr (q := ⟨k, 1, none⟩) rfl rfl Try.underlying65 rfl ti62 rfl ?_
 refine o_load1 rfl rfl Try.underlying62 rfl (rd_mem 2 rfl rfl) ?_
 refine o_call rfl cal38 rfl (all_A (t := t_1)) ?_
 rintro _ _ ⟨kt9, rfl, rfl⟩
 refine l_nil (q_then (c_block (cP p3 (cP p5 (cP p3 (cP p4 (cP p6 (cP p6 (cP p6 ?_)))))))))
 refine c_rangeG (Li := [blk kt9 (.cells #[.pointer (some ⟨t_1, 0, none⟩)] 62 (0, 0)), treeR e_ItA eN99 103 105 ItA.f_key strlt t_1 s.xs]) (L0 := blk b2 (.cells #[.slice none (([] : List ItA)).length 0] 43 (0, 0)) :: row e_Row.T e_Row.sz none (([] : List ItA)).length 0 (flat e_Row ([] : List ItA)) :: vals ([] : List ItA) :: vals s.xs :: blk k (.cells #[.int .i64 s.n, .pointer (some ⟨t_1, 0, none⟩)] 65 (0, 0)) :: F) (fun pre L => ∃ O : List ItA, ∃ ao : Option Addr, ∃ co : Nat, (O.map proj = pre.map proj) ∧ L = blk b2 (.cells #[.slice ao (O).length co] 43 (0, 0)) :: row e_Row.T e_Row.sz ao (O).length co (flat e_Row O) :: vals O :: vals s.xs :: blk k (.cells #[.int .i64 s.n, .pointer (some ⟨t_1, 0, none⟩)] 65 (0, 0)) :: F) (fun c L => False) rfl rfl cal60 rfl (fun _ => rfl) (allIter_A) (fun w S => S) ⟨[], none, 0, rfl, rfl⟩ ?_ ?_ ?_
 · -- round
  rintro Lxg1 kg1 rg1 Dg1 pre x _ hrg1 ⟨O, ao, co, hps, rfl⟩ hpre
  try dsimp only at *
  have hxin : x ∈ s.xs := pre_in hpre
  have hvl : x.f_value.f_Value.xs.length ≤ 1000000 := (ok_1.ok x hxin).val
  have hpl := pre_len hpre
  have hol : O.length = pre.length := by have h9 := congrArg List.length hps; rw [List.length_map, List.length_map] at h9; exact h9
  refine c_conv (L' := blk kg1 (.loop rg1) :: Dg1 :: blk b2 (.cells #[.slice ao (O).length co] 43 (0, 0)) :: row e_Row.T e_Row.sz ao (O).length co (flat e_Row O) :: vals O :: vals s.xs :: blk k (.cells #[.int .i64 s.n, .pointer (some ⟨t_1, 0, none⟩)] 65 (0, 0)) :: (Lxg1 ++ F)) (fun w S => S.perm (rgP Lxg1 [blk b2 (.cells #[.slice ao (O).length co] 43 (0, 0)), row e_Row.T e_Row.sz ao (O).length co (flat e_Row O), vals O, vals s.xs, blk k (.cells #[.int .i64 s.n, .pointer (some ⟨t_1, 0, none⟩)] 65 (0, 0))] F)) ?_
  refine c_seq (c_region (o_assign rfl rfl (l_nil (q_then (c_region ?_)))))
  refine o_alloc rfl ti36 fun b4 => ?_
  refine o_storen rfl rfl ti36 rfl rfl rfl rfl ?_
  refine l_nil (qP p7 (qP p7 (qP p7 (qP p7 (qP p7 (qP p7 (qP p6 (qP p7 ?_))))))))
  refine q_begin rfl hrg1 ?_
  refine c_block (c_seq (c_region ?_))
  refine o_fieldAddr (q := ⟨b4, 1, none⟩) rfl rfl Try.underlying36 rfl ti23 rfl ?_
  refine o_load1 rfl rfl Try.underlying23 rfl (rd_mem 1 rfl rfl) ?_
  refine o_call rfl cal30 rfl (clone8 (xs := x.f_value.f_Value.xs) (a := x.f_value.f_Value.a) (c := x.f_value.f_Value.c) (rds_vals 6 rfl hxin) (by show _ * 1 ≤ _; omega) (by omega)) ?_
  rintro _ _ ⟨a14, c14, rfl, rfl⟩
  refine o_fieldAddr (q := ⟨b4, 1, none⟩) rfl rfl Try.underlying36 rfl ti23 rfl ?_
  refine l_f2 ?_
  refine o_store1 rfl rfl rfl ti23 rfl rfl ?_
  refine l_nil (q_then (c_region ?_))
  refine o_load1 rfl rfl Try.underlying43 rfl (rd_mem 4 rfl rfl) ?_
  refine o_move rfl rfl ?_
  refine o_loadn (vs := [_, _, _, _]) rfl rfl Try.underlying36 rfl ti36 (rdn_lit 0 rfl rfl) ?_
  refine o_build rfl sp49 ti49 rfl ((fill_cons (cells' := [.string x.f_key, .bool false, .slice none 0 0, .int .i64 0, .int .u64 0]) rfl rfl rfl rfl (fill_cons (cells' := [.string x.f_key, .bool x.f_value.f_Has, .slice a14 (x.f_value.f_Value.xs).length c14, .int .i64 x.f_value.f_Home, .int .u64 x.f_value.f_Count]) rfl rfl rfl rfl fill_nil))) ?_
  refine o_lit e_Row_ok rfl Try.underlying43 rfl rfl rfl (lit_ok rfl) [(⟨x.f_key, ⟨x.f_value.f_Has, ⟨a14, x.f_value.f_Value.xs, c14⟩, x.f_value.f_Home, x.f_value.f_Count⟩⟩ : ItA)] rfl rfl fun a20 => ?_
  refine l_f6 ?_
  refine o_append e_Row_ok rfl rfl rfl Try.underlying43 (rds_own e_Row_ok 1 rfl) (by show (_ + _) * 64 ≤ _; (try simp only [List.length_append, List.length_cons, List.length_nil]); omega) (by (try simp only [List.length_append, List.length_cons, List.length_nil]); omega) fun a21 c21 => ?_
  refine l_f1 ?_
  refine l_drop ?_
  refine l_f5 ?_
  refine o_store1 rfl rfl rfl ti43 rfl rfl ?_
  refine l_nil (q_block (qP p8 (qP p8 (qP p7 (qP p7 (qP p6 (qP p6 (qP p6 (qP p8 ?_)))))))))
  refine qP p8 ?_
  refine q_conv (L' := vals (O ++ [(⟨x.f_key, ⟨x.f_value.f_Has, ⟨a14, x.f_value.f_Value.xs, c14⟩, x.f_value.f_Home, x.f_value.f_Count⟩⟩ : ItA)]) :: _) (fun w S => Sat.vals_app (x := (⟨x.f_key, ⟨x.f_value.f_Has, ⟨a14, x.f_value.f_Value.xs, c14⟩, x.f_value.f_Home, x.f_value.f_Count⟩⟩ : ItA)) S) ?_
  refine qP p3 (qT (qP p6 (qP p6 (qP p2 (qP p4 (qP p4 (qP p6 (qP p6 ?_))))))))
  exact q_roundOn (.inl ⟨rfl, _, ⟨O ++ [(⟨x.f_key, ⟨x.f_value.f_Has, ⟨a14, x.f_value.f_Value.xs, c14⟩, x.f_value.f_Home, x.f_value.f_Count⟩⟩ : ItA)], a21, c21, by (rw [List.map_append, List.map_append, hps]; rfl), rfl⟩, rfl⟩) (fun w S => S.perm (rgP Lxg1 [blk b2 (.cells #[.slice a21 (O ++ [(⟨x.f_key, ⟨x.f_value.f_Has, ⟨a14, x.f_value.f_Value.xs, c14⟩, x.f_value.f_Home, x.f_value.f_Count⟩⟩ : ItA)]).length c21] 43 (0, 0)), row e_Row.T e_Row.sz a21 (O ++ [(⟨x.f_key, ⟨x.f_value.f_Has, ⟨a14, x.f_value.f_Value.xs, c14⟩, x.f_value.f_Home, x.f_value.f_Count⟩⟩ : ItA)]).length c21 (flat e_Row (O ++ [(⟨x.f_key, ⟨x.f_value.f_Has, ⟨a14, x.f_value.f_Value.xs, c14⟩, x.f_value.f_Home, x.f_value.f_Count⟩⟩ : ItA)])), vals (O ++ [(⟨x.f_key, ⟨x.f_value.f_Has, ⟨a14, x.f_value.f_Value.xs, c14⟩, x.f_value.f_Home, x.f_value.f_Count⟩⟩ : ItA)]), vals s.xs, blk k (.cells #[.int .i64 s.n, .pointer (some ⟨t_1, 0, none⟩)] 65 (0, 0))] F).symm)
 · -- all have come
  rintro dg1 _ ⟨O, ao, co, hps, rfl⟩
  try dsimp only at *
  refine q_block (q_then (c_seq (c_region ?_)))
  refine o_load1 rfl rfl Try.underlying43 rfl (rd_mem 3 rfl rfl) ?_
  refine l_f3 ?_
  refine o_store1 rfl rfl rfl ti43 rfl rfl ?_
  refine l_nil (q_then (c_ret (qP p5 (qP p5 (qP p4 (qP p4 (qP p4 (qP p6 (qP p6 ?_)))))))))
  refine qP p7 ?_
  refine q_conv (L' := StR k s :: _) (fun w S => Sat.obj_mk t_1 ok_1 S) ?_
  refine qP p5 (qP p5 (qP p5 (qP p4 (qP p4 (qP p5 ?_)))))
  refine f_retMq [dg1] (.inl rfl) rfl (fun w S => S) (rs_1 rfl (rs_cell rfl Try.underlying43 rfl (rd_mem 1 rfl rfl))) (fun w S => ?_)
  replace S := (S.perm p1).tail
  replace S := (S.perm p1).tail
  replace S := S.perm p2
  replace S := S.perm p2
  exact ⟨_, ⟨O, ao, co, hps, rfl, rfl⟩, (fun w S => S) w S⟩
 · -- a round has left
  exact fun _ _ _ h => h.elim
end
section
set_option linter.unusedVariables false
set_option linter.unusedSimpArgs false
open Go.RowKit Classical
theorem mem_setM {k : ByteArray} {r : RecM} {M : Rows} {z : ByteArray × RecM} (h : z ∈ setM k r M) : z = (k, r) ∨ z ∈ M := by
  unfold setM at h
  split at h
  · exact .inr (mem_del.1 h).1
  · exact mem_ins h
theorem look_in {n : Int} {k : ByteArray} {M : Rows} : lookM n k M = r0 n k ∨ ∃ z ∈ M, z.1 = k ∧ z.2 = lookM n k M := by
  unfold lookM
  cases h : findM k M with
  | none => exact .inl rfl
  | some z => exact .inr ⟨z, List.mem_of_find?_eq_some h, find_key h, rfl⟩
/-- No key was moved oftener than that. -/
def Cnt (c : Int) (M : Rows) : Prop := 0 ≤ c ∧ ∀ z ∈ M, z.2.count ≤ c
theorem Cnt.look {c n : Int} {k : ByteArray} {M : Rows} (h : Cnt c M) : (lookM n k M).count ≤ c := by
  rcases look_in (n := n) (k := k) (M := M) with h1 | ⟨z, hz, _, h1⟩
  · rw [h1]; exact h.1
  · rw [← h1]; exact h.2 z hz
theorem Cnt.set {c c' : Int} {k : ByteArray} {r : RecM} {M : Rows} (h : Cnt c M) (hc : c ≤ c') (hr : r.count ≤ c') : Cnt c' (setM k r M) := ⟨Int.le_trans h.1 hc, fun z hz => by
  rcases mem_setM hz with rfl | hz
  · exact hr
  · exact Int.le_trans (h.2 z hz) hc⟩
/-- Both stores have the same rows behind a call. -/
structure Two (k : ByteArray) (s t s' t' : SS) : Prop where
  n1 : s'.n = s.n
  n2 : t'.n = t.n
  M : s'.M = t'.M
  len : s'.xs.length ≤ s.xs.length + 1
  cnt : ∀ c, Cnt c s.M → Cnt (c + 1) s'.M
  key : ∀ z ∈ s'.M, z.1 = k ∨ ∃ y ∈ s.M, y.1 = z.1
theorem key_setM {k : ByteArray} {r : RecM} {M : Rows} : ∀ z ∈ setM k r M, z.1 = k ∨ ∃ y ∈ M, y.1 = z.1 := fun z hz => by
  rcases mem_setM hz with rfl | hz
  · exact .inl rfl
  · exact .inr ⟨z, hz, rfl⟩
theorem Two.same {k : ByteArray} {s t : SS} (hM : s.M = t.M) : Two k s t s t := ⟨rfl, rfl, hM, by omega, fun c h => ⟨by have := h.1; omega, fun z hz => by have := h.2 z hz; omega⟩, fun z hz => .inr ⟨z, hz, rfl⟩⟩
theorem Two.put {s t s' t' : SS} {k : ByteArray} {v : List UInt8} (hM : s.M = t.M) (hn : s.n = t.n) (h1 : s'.n = s.n) (h2 : s'.M = putM s.n k v s.M) (h3 : t'.n = t.n) (h4 : t'.M = putM t.n k v t.M) : Two k s t s' t' :=
  ⟨h1, h3, by rw [h2, h4, hM, hn], by rw [← M_len, ← M_len, h2]; exact set_len, fun c h => by rw [h2]; exact h.set (by omega) (by have := h.look (n := s.n) (k := k); show (lookM s.n k s.M).count ≤ c + 1; omega), by rw [h2]; exact key_setM⟩
theorem move_cases {n : Int} {k : ByteArray} {h e : Int} {M M' : Rows} (hm : moveM n k h M = (e, M')) : (e = 1 ∧ M' = M ∧ (h < 0 ∨ n ≤ h)) ∨ (e = 111 ∧ M' = M ∧ (lookM n k M).count = maxU) ∨ (e = 0 ∧ M' = setM k { lookM n k M with home := h, count := (lookM n k M).count + 1 } M ∧ 0 ≤ h ∧ h < n) := by
  unfold moveM at hm
  split at hm
  · have h1 := congrArg Prod.fst hm; have h2 := congrArg Prod.snd hm; simp only at h1 h2; exact .inl ⟨h1.symm, h2.symm, by assumption⟩
  · split at hm
    · have h1 := congrArg Prod.fst hm; have h2 := congrArg Prod.snd hm; simp only at h1 h2; exact .inr (.inl ⟨h1.symm, h2.symm, by assumption⟩)
    · have h1 := congrArg Prod.fst hm; have h2 := congrArg Prod.snd hm; simp only at h1 h2; exact .inr (.inr ⟨h1.symm, h2.symm, by omega, by omega⟩)
theorem move_len {n : Int} {k : ByteArray} {h e : Int} {M M' : Rows} (hm : moveM n k h M = (e, M')) : M'.length ≤ M.length + 1 := by
  rcases move_cases hm with ⟨_, h1, _⟩ | ⟨_, h1, _⟩ | ⟨_, h1, _⟩
  · rw [h1]; omega
  · rw [h1]; omega
  · rw [h1]; exact set_len
theorem Two.move {s t s' t' : SS} {k : ByteArray} {h e e' : Int} (hM : s.M = t.M) (hn : s.n = t.n) (h1 : s'.n = s.n) (h2 : moveM s.n k h s.M = (e, s'.M)) (h3 : t'.n = t.n) (h4 : moveM t.n k h t.M = (e', t'.M)) : e = e' ∧ Two k s t s' t' := by
  have h5 := h2
  rw [hM, hn, h4] at h5
  have h6 := congrArg Prod.fst h5
  have h7 := congrArg Prod.snd h5
  simp only at h6 h7
  refine ⟨h6.symm, h1, h3, h7.symm, by rw [← M_len, ← M_len]; exact move_len h2, fun c hc => ?_, ?_⟩
  · rcases move_cases h2 with ⟨_, h8, _⟩ | ⟨_, h8, _⟩ | ⟨_, h8, _⟩
    · rw [h8]; exact (Two.same (k := k) hM).cnt c hc
    · rw [h8]; exact (Two.same (k := k) hM).cnt c hc
    · rw [h8]; exact hc.set (by omega) (by have := hc.look (n := s.n) (k := k); show (lookM s.n k s.M).count + 1 ≤ c + 1; omega)
  · rcases move_cases h2 with ⟨_, h8, _⟩ | ⟨_, h8, _⟩ | ⟨_, h8, _⟩
    · rw [h8]; exact (Two.same (k := k) hM).key
    · rw [h8]; exact (Two.same (k := k) hM).key
    · rw [h8]; exact key_setM
theorem rows_len {ys : List ItA} {M : Rows} (h : ys.map proj = M) : ys.length = M.length := by rw [← h, List.length_map]
end
section
set_option linter.unusedVariables false
set_option linter.unusedSimpArgs false
open Go.RowKit Classical
theorem srt_setM {k : ByteArray} {r : RecM} {M : Rows} (h : Srt Prod.fst strlt M) : Srt Prod.fst strlt (setM k r M) := by
  unfold setM
  split
  · exact srt_del h
  · exact srt_ins strlt_sto h
theorem srt_M {xs : List ItA} (h : Srt ItA.f_key strlt xs) : Srt Prod.fst strlt (xs.map proj) := by
  unfold Srt at h ⊢
  exact List.pairwise_map.2 h
/-- The rows of a script so far. -/
structure Script (n : Int) (i : Nat) (s t : SS) : Prop where
  n1 : s.n = n
  n2 : t.n = n
  M : s.M = t.M
  len : s.xs.length ≤ i
  cnt : Cnt i s.M
  key : ∀ z ∈ s.M, z.1.size ≤ 500
theorem Script.start {n : Int} {s t : SS} (h1 : s = ⟨n, []⟩) (h2 : t = ⟨n, []⟩) : Script n 0 s t := by
  subst h1 h2
  exact ⟨rfl, rfl, rfl, Nat.le_refl _, ⟨Int.le_refl _, fun z hz => by simp [SS.M] at hz⟩, fun z hz => by simp [SS.M] at hz⟩
theorem Script.on {n : Int} {i : Nat} {s t s' t' : SS} {k : ByteArray} (h : Script n i s t) (h2 : Two k s t s' t') (hk : k.size ≤ 500) : Script n (i + 1) s' t' :=
  ⟨h2.n1.trans h.n1, h2.n2.trans h.n2, h2.M, by have := h2.len; have := h.len; omega, by have := h2.cnt _ h.cnt; rw [Int.natCast_add]; exact this, fun z hz => by
    rcases h2.key z hz with rfl | ⟨y, hy, h3⟩
    · exact hk
    · rw [← h3]; exact h.key y hy⟩
end
section
set_option linter.unusedVariables false
set_option linter.unusedSimpArgs false
open Go.RowKit Classical
def hasB (b : Bool) : UInt8 := if b = true then 1 else 0
def rowB (z : ByteArray × RecM) : List UInt8 := numB z.1.data.toList.length ++ z.1.data.toList ++ [hasB z.2.has] ++ (numB z.2.val.length ++ z.2.val) ++ numB z.2.home.toNat ++ numB z.2.count.toNat
def rowsB (M : Rows) : List UInt8 := M.flatMap rowB
def snapB (n : Int) (M : Rows) : List UInt8 := numB n.toNat ++ numB M.length ++ rowsB M
theorem nl10 {n : Nat} (h : n < 18446744073709551616) : (numB n).length ≤ 10 := numB_len_le 10 n (by omega) (by omega)
theorem rowB_len {n : Int} {z : ByteArray × RecM} (hn : n ≤ 3) (hk : z.1.size ≤ 1000000) (h : OkR n z.2) : (rowB z).length ≤ 2000050 := by
  have h1 := h.val
  have h2 : z.1.data.toList.length ≤ 1000000 := by rw [Array.length_toList]; exact hk
  have h3 := nl10 (n := z.1.data.toList.length) (by omega)
  have h4 := nl10 (n := z.2.val.length) (by omega)
  have hc : z.2.count ≤ 18446744073709551615 := h.cn
  have hc0 := h.c0
  have hh := h.hn
  have hh0 := h.h0
  have h5 := nl10 (n := z.2.count.toNat) (by omega)
  have h6 := nl10 (n := z.2.home.toNat) (by omega)
  unfold rowB
  simp only [List.length_append, List.length_cons, List.length_nil]
  omega
theorem rowsB_len {n : Int} {M : Rows} (hn : n ≤ 3) (h : ∀ z ∈ M, z.1.size ≤ 1000000 ∧ OkR n z.2) : (rowsB M).length ≤ 2000050 * M.length := by
  induction M with
  | nil => simp [rowsB]
  | cons z zs ih =>
    have h1 := rowB_len hn (h z (by simp)).1 (h z (by simp)).2
    have h2 := ih fun y hy => h y (List.mem_cons_of_mem _ hy)
    unfold rowsB at h2 ⊢
    rw [List.flatMap_cons, List.length_append, List.length_cons]
    omega
theorem rowsB_on {ys : List ItA} {i : Nat} {x : ItA} (hx : ys[i]? = some x) : rowsB ((ys.take (i + 1)).map proj) = rowsB ((ys.take i).map proj) ++ rowB (proj x) := by
  unfold rowsB
  rw [take_snoc' hx, List.map_append, List.flatMap_append]; simp
theorem rowB_x {x : ItA} : rowB (proj x) = numB x.f_key.data.toList.length ++ x.f_key.data.toList ++ [hasB x.f_value.f_Has] ++ (numB x.f_value.f_Value.xs.length ++ x.f_value.f_Value.xs) ++ numB x.f_value.f_Home.toNat ++ numB x.f_value.f_Count.toNat := rfl
/-- Rows that can be put into bytes. -/
structure Sized (s : SS) : Prop where
  ok : OkS s
  key : ∀ z ∈ s.M, z.1.size ≤ 1000000
  len : s.xs.length ≤ 100000
theorem Sized.mem {s : SS} (h : Sized s) : ∀ z ∈ s.M, z.1.size ≤ 1000000 ∧ OkR 3 z.2 := fun z hz => by
  refine ⟨h.key z hz, ?_⟩
  obtain ⟨x, hx, rfl⟩ := List.mem_map.1 hz
  exact h.ok.ok x hx
theorem Sized.part {s : SS} {ys : List ItA} (h : Sized s) (hy : ys.map proj = s.M) (i : Nat) : (rowsB ((ys.take i).map proj)).length ≤ 300000000000 := by
  have h1 := rowsB_len (n := 3) (M := (ys.take i).map proj) (by omega) fun z hz => h.mem z (by rw [← hy]; obtain ⟨x, hx, rfl⟩ := List.mem_map.1 hz; exact List.mem_map.2 ⟨x, List.mem_of_mem_take hx, rfl⟩)
  have h2 : ((ys.take i).map proj).length ≤ 100000 := by
    rw [List.length_map, List.length_take]
    have := rows_len hy
    rw [M_len] at this
    have := h.len; omega
  omega
theorem Sized.row {s : SS} {ys : List ItA} {x : ItA} {i : Nat} (h : Sized s) (hy : ys.map proj = s.M) (hx : ys[i]? = some x) : x.f_key.data.toList.length ≤ 1000000 ∧ x.f_value.f_Value.xs.length ≤ 1000000 ∧ 0 ≤ x.f_value.f_Home ∧ x.f_value.f_Home < 3 ∧ 0 ≤ x.f_value.f_Count ∧ x.f_value.f_Count ≤ 18446744073709551615 := by
  have h1 := h.mem (proj x) (by rw [← hy]; exact List.mem_map.2 ⟨x, List.mem_of_getElem? hx, rfl⟩)
  have h2 := h.ok.n3
  have h3 : x.f_value.f_Home < 3 := h1.2.hn
  refine ⟨by rw [Array.length_toList]; exact h1.1, h1.2.val, h1.2.h0, by omega, h1.2.c0, h1.2.cn⟩
end
section
set_option linter.unusedVariables false
set_option linter.unusedSimpArgs false
open Go.RowKit Classical
theorem numR_lt : ∀ (t : List UInt8) (k n : Nat), k ≤ 9 → n < 128 ^ k → (numR k n t).1 < 18446744073709551616
  | [], k, n, _, _ => by simp [numR]
  | b :: t, k, n, hk, hn => by
    have h9 := numR_next (b := b) hn
    rw [numR]
    split
    · simp
    · rename_i h
      split
      · split
        · simp
        · show n + b.toNat % 128 * 128 ^ k < _
          by_cases hk9 : k = 9
          · subst hk9
            have : 128 ^ 9 = 9223372036854775808 := by decide
            rw [this] at hn ⊢; omega
          · have := pow_le9 (k := k + 1) (by omega); omega
      · exact numR_lt t (k + 1) _ (by omega) h9
theorem numR_conv : ∀ (t : List UInt8) (k n : Nat), (numR k n t).2.1 = 0 → ∃ m s, t = numB m ++ s ∧ (numR k n t).1 = n + m * 128 ^ k ∧ (numR k n t).2.2 = k + (numB m).length ∧ (0 < k → 0 < m)
  | [], k, n, h => by simp [numR] at h
  | b :: t, k, n, h => by
    have hb := b.toNat_lt
    rw [numR] at h ⊢
    split at h
    · simp at h
    · rename_i h1
      rw [if_neg h1]
      split at h
      · rename_i h2
        rw [if_pos h2]
        split at h
        · simp at h
        · rename_i h3
          rw [if_neg h3]
          refine ⟨b.toNat, t, ?_, ?_, ?_, by omega⟩
          · rw [numB_lt h2]; simp
          · show n + b.toNat % 128 * 128 ^ k = _; rw [Nat.mod_eq_of_lt h2]
          · rw [numB_lt h2]; rfl
      · rename_i h2
        rw [if_neg h2]
        obtain ⟨m, s, e1, e2, e3, e4⟩ := numR_conv t (k + 1) _ h
        have hm := e4 (by omega)
        have hd : (b.toNat % 128 + 128 * m) / 128 = m := by omega
        have hn : numB (b.toNat % 128 + 128 * m) = b :: numB m := by
          rw [numB_ge (by omega), hd]
          congr 1
          apply UInt8.toNat_inj.1
          rw [or_low]; omega
        refine ⟨b.toNat % 128 + 128 * m, s, ?_, ?_, ?_, fun _ => by omega⟩
        · rw [hn, e1]; rfl
        · rw [e2, pow_split, Nat.add_mul, Nat.add_assoc]
          congr 1
          rw [Nat.mul_comm 128 m, Nat.mul_assoc, Nat.mul_comm 128]
        · rw [e3, hn]; simp; omega
theorem numR_is {t : List UInt8} (h : (numR 0 0 t).2.1 = 0) : t = numB (numR 0 0 t).1 ++ t.drop (numR 0 0 t).2.2 := by
  obtain ⟨m, s, e1, e2, e3, _⟩ := numR_conv t 0 0 h
  have e4 : (numR 0 0 t).1 = m := by rw [e2]; simp
  rw [e4, e3, Nat.zero_add]
  rw [e1, List.drop_left]
theorem numR_of {m : Nat} {s t : List UInt8} (hm : m < 18446744073709551616) (h : t = numB m ++ s) : (numR 0 0 t).1 = m ∧ (numR 0 0 t).2.1 = 0 ∧ t.drop (numR 0 0 t).2.2 = s := by
  have h1 := numR_numB s m 0 0 (by omega) (by omega) (by omega)
  rw [h, h1]
  refine ⟨by simp, rfl, ?_⟩
  show List.drop (0 + (numB m).length) _ = _
  rw [Nat.zero_add, List.drop_left]
theorem textR_is {t : List UInt8} (h : (textR t).2.1 = 0) : t = (numB (textR t).1.length ++ (textR t).1) ++ t.drop (textR t).2.2 := by
  by_cases h1 : (numR 0 0 t).2.1 = 0
  · by_cases h2 : t.length - (numR 0 0 t).2.2 < (numR 0 0 t).1
    · rw [textR_short h1 h2] at h; simp at h
    · rw [textR_ok h1 h2]
      show t = (numB (sub t _ _).length ++ sub t _ _) ++ t.drop _
      have h3 := numR_is h1
      have hu := numR_used t 0 0
      have hl : (sub t (numR 0 0 t).2.2 ((numR 0 0 t).2.2 + (numR 0 0 t).1)).length = (numR 0 0 t).1 := by rw [sub_len (by omega)]; omega
      rw [hl, List.append_assoc]
      have h4 : sub t (numR 0 0 t).2.2 ((numR 0 0 t).2.2 + (numR 0 0 t).1) ++ t.drop ((numR 0 0 t).2.2 + (numR 0 0 t).1) = t.drop (numR 0 0 t).2.2 := by
        rw [← sub_drop, sub_take, ← List.drop_drop]
        exact List.take_append_drop _ _
      rw [h4]
      exact h3
  · rw [textR_err h1] at h; exact absurd h h1
theorem bts_data (s : ByteArray) : bts s.data.toList = s := by cases s; simp [bts]
theorem num_0 (t : List UInt8) : (numR 0 0 t).1 < 18446744073709551616 := numR_lt t 0 0 (by omega) (by omega)
theorem textR_ofL {v s t : List UInt8} (hv : v.length < 18446744073709551616) (h : t = numB v.length ++ v ++ s) : (textR t).1 = v ∧ (textR t).2.1 = 0 ∧ t.drop (textR t).2.2 = s := by
  rw [List.append_assoc] at h
  have h1 := numR_numB (v ++ s) v.length 0 0 (by omega) (by omega) (by omega)
  have h2 : numR 0 0 t = (v.length, 0, (numB v.length).length) := by rw [h, h1]; simp
  have h3 : ¬ t.length - (numR 0 0 t).2.2 < (numR 0 0 t).1 := by rw [h2, h]; simp
  rw [textR_ok (by rw [h2]) h3, h2]
  have h4 : t.drop (numB v.length).length = v ++ s := by rw [h, List.drop_left]
  refine ⟨?_, rfl, ?_⟩
  · show sub t _ _ = v
    rw [← sub_drop, h4, sub_take, List.take_left]
  · show t.drop (_ + _) = s
    rw [← List.drop_drop, h4, List.drop_left]
end
section
set_option linter.unusedVariables false
set_option linter.unusedSimpArgs false
open Go.RowKit Classical
def y1 (ys : List UInt8) : List UInt8 := ys.drop (textR ys).2.2
def y2 (ys : List UInt8) : List UInt8 := (y1 ys).drop (byteR (y1 ys)).2.2
def y3 (ys : List UInt8) : List UInt8 := (y2 ys).drop (textR (y2 ys)).2.2
def y4 (ys : List UInt8) : List UInt8 := (y3 ys).drop (numR 0 0 (y3 ys)).2.2
def y5 (ys : List UInt8) : List UInt8 := (y4 ys).drop (numR 0 0 (y4 ys)).2.2
def rdKey (ys : List UInt8) : ByteArray := bts (textR ys).1
def rdHas (ys : List UInt8) : UInt8 := (byteR (y1 ys)).1
def rdVal (ys : List UInt8) : List UInt8 := (textR (y2 ys)).1
def rdHome (ys : List UInt8) : Nat := (numR 0 0 (y3 ys)).1
def rdCnt (ys : List UInt8) : Nat := (numR 0 0 (y4 ys)).1
/-- No fault in a row's reading. -/
structure NoErr (ys : List UInt8) : Prop where
  e1 : (textR ys).2.1 = 0
  e2 : (byteR (y1 ys)).2.1 = 0
  e3 : (textR (y2 ys)).2.1 = 0
  e4 : (numR 0 0 (y3 ys)).2.1 = 0
  e5 : (numR 0 0 (y4 ys)).2.1 = 0
/-- A row that a store of n regions may have. -/
structure VRow (n : Int) (z : ByteArray × RecM) : Prop where
  h0 : 0 ≤ z.2.home
  hn : z.2.home < n
  c0 : 0 ≤ z.2.count
  cn : z.2.count ≤ maxU
  no : z.2.has = false → z.2.val = [] ∧ ¬ z.2.count = 0
  df : z.2.count = 0 → z.2.home = dflt z.1 n
structure ValidM (n : Int) (M : Rows) : Prop where
  srt : Srt Prod.fst strlt M
  row : ∀ z ∈ M, VRow n z
theorem VRow.keep {n : Int} {z : ByteArray × RecM} (h : VRow n z) : z.2.has = true ∨ ¬ z.2.count = 0 := by
  cases hh : z.2.has with
  | true => exact .inl rfl
  | false => exact .inr (h.no hh).2
/-- A row that stands there is read. -/
theorem row_there {n : Int} {z : ByteArray × RecM} {s t : List UInt8} (hn : n ≤ 3) (hz : VRow n z) (hl : t.length ≤ 1000000) (h : t = rowB z ++ s) :
    NoErr t ∧ rdKey t = z.1 ∧ rdHas t = hasB z.2.has ∧ rdVal t = z.2.val ∧ (rdHome t : Int) = z.2.home ∧ (rdCnt t : Int) = z.2.count ∧ y5 t = s := by
  have hlen := congrArg List.length h
  unfold rowB at h hlen
  simp only [List.length_append, List.length_cons, List.length_nil] at hlen
  have hc : z.2.count ≤ 18446744073709551615 := hz.cn
  have hc0 := hz.c0
  have hh0 := hz.h0
  have hhn := hz.hn
  have hhm : z.2.home.toNat < 18446744073709551616 := by omega
  obtain ⟨a1, a2, a3⟩ := textR_ofL (v := z.1.data.toList) (t := t) (s := [hasB z.2.has] ++ (numB z.2.val.length ++ z.2.val) ++ numB z.2.home.toNat ++ numB z.2.count.toNat ++ s) (by omega) (by rw [h]; simp only [List.append_assoc])
  have b0 : y1 t = hasB z.2.has :: ((numB z.2.val.length ++ z.2.val) ++ numB z.2.home.toNat ++ numB z.2.count.toNat ++ s) := by unfold y1; rw [a3]; simp only [List.append_assoc, List.cons_append, List.nil_append]
  have b1 : byteR (y1 t) = (hasB z.2.has, 0, 1) := by rw [b0]; rfl
  have b2 : y2 t = numB z.2.val.length ++ z.2.val ++ (numB z.2.home.toNat ++ (numB z.2.count.toNat ++ s)) := by unfold y2; rw [b1, b0]; simp only [List.append_assoc]; rfl
  obtain ⟨c1, c2, c3⟩ := textR_ofL (v := z.2.val) (t := y2 t) (by omega) b2
  have d0 : y3 t = numB z.2.home.toNat ++ (numB z.2.count.toNat ++ s) := c3
  obtain ⟨d1, d2, d3⟩ := numR_of hhm d0
  have e0 : y4 t = numB z.2.count.toNat ++ s := d3
  obtain ⟨e1, e2, e3⟩ := numR_of (m := z.2.count.toNat) (by omega) e0
  refine ⟨⟨a2, by rw [b1], c2, d2, e2⟩, ?_, by unfold rdHas; rw [b1], c1, ?_, ?_, e3⟩
  · unfold rdKey; rw [a1, bts_data]
  · unfold rdHome; rw [d1]; omega
  · unfold rdCnt; rw [e1]; omega
/-- A row that was read without a fault stood there. -/
theorem row_back {t : List UInt8} (h : NoErr t) (hh : (rdHas t).toNat ≤ 1) : t = rowB (rdKey t, ⟨decide (rdHas t = 1), rdVal t, (rdHome t : Int), (rdCnt t : Int)⟩) ++ y5 t := by
  have a := textR_is h.e1
  have b : y1 t = [rdHas t] ++ y2 t := by
    have h2 := h.e2
    unfold rdHas y2
    cases hy : y1 t with
    | nil => rw [hy] at h2; simp [byteR] at h2
    | cons b u => rfl
  have c := textR_is h.e3
  have d := numR_is h.e4
  have e := numR_is h.e5
  have hb : hasB (decide (rdHas t = 1)) = rdHas t := by
    unfold hasB
    by_cases h1 : rdHas t = 1
    · rw [decide_eq_true h1, if_pos rfl, h1]
    · rw [decide_eq_false h1, if_neg (by decide)]
      apply UInt8.toNat_inj.1
      have : ¬ (rdHas t).toNat = 1 := fun h9 => h1 (UInt8.toNat_inj.1 h9)
      show 0 = _
      omega
  have hk : (rdKey t).data.toList = (textR t).1 := by unfold rdKey bts; simp
  unfold rowB
  simp only
  rw [hb, hk, show ((rdHome t : Int)).toNat = rdHome t from rfl, show ((rdCnt t : Int)).toNat = rdCnt t from rfl]
  conv => lhs; rw [a]
  simp only [List.append_assoc]
  congr 2
  show y1 t = _
  rw [b, show y2 t = (numB (rdVal t).length ++ rdVal t) ++ y3 t from c, show y3 t = numB (rdHome t) ++ y4 t from d, show y4 t = numB (rdCnt t) ++ y5 t from e]
  simp only [List.append_assoc]
/-- No store's bytes. -/
def NotSnap (n : Int) (bs : List UInt8) : Prop := ∀ M, ValidM n M → ¬ bs = snapB n M
theorem snap_hd {n : Int} {M : Rows} {bs : List UInt8} (hn0 : 1 ≤ n) (hn : n ≤ 3) (hl : bs.length ≤ 1000000) (h : bs = snapB n M) :
    (numR 0 0 bs).2.1 = 0 ∧ ((numR 0 0 bs).1 : Int) = n ∧ (numR 0 0 (bs.drop (numR 0 0 bs).2.2)).2.1 = 0 ∧ (numR 0 0 (bs.drop (numR 0 0 bs).2.2)).1 = M.length ∧ (bs.drop (numR 0 0 bs).2.2).drop (numR 0 0 (bs.drop (numR 0 0 bs).2.2)).2.2 = rowsB M := by
  have hl9 := congrArg List.length h
  unfold snapB at h hl9
  rw [List.append_assoc] at h
  obtain ⟨a1, a2, a3⟩ := numR_of (m := n.toNat) (by omega) h
  have hM : M.length ≤ (rowsB M).length := by
    clear h hl9 a1 a2 a3
    induction M with
    | nil => simp
    | cons z zs ih =>
      unfold rowsB at ih ⊢
      rw [List.flatMap_cons, List.length_append, List.length_cons]
      have : 0 < (rowB z).length := by unfold rowB; simp; omega
      omega
  simp only [List.length_append] at hl9
  obtain ⟨b1, b2, b3⟩ := numR_of (m := M.length) (t := bs.drop (numR 0 0 bs).2.2) (by omega) a3
  exact ⟨a2, by rw [a1]; omega, b2, b1, b3⟩
theorem rowsB_cons {z : ByteArray × RecM} {M : Rows} : rowsB (z :: M) = rowB z ++ rowsB M := by unfold rowsB; rw [List.flatMap_cons]
theorem ins_end {z : ByteArray × RecM} {P : Rows} (h : ∀ p ∈ P, strlt p.1 z.1) : insM z.1 z.2 P = P ++ [z] := by
  unfold insM
  have := ins_pre (key := Prod.fst) (lt := strlt) strlt_sto (x := (z.1, z.2)) (Z := []) (P := P) h
  rw [List.append_nil] at this
  rw [this]; rfl
theorem ValidM.at {n : Int} {M : Rows} {j : Nat} {z : ByteArray × RecM} (h : ValidM n M) (hz : M[j]? = some z) : VRow n z ∧ setM z.1 z.2 (M.take j) = M.take (j + 1) ∧ rowsB (M.drop j) = rowB z ++ rowsB (M.drop (j + 1)) ∧ (∀ p ∈ M.take j, strlt p.1 z.1) := by
  have hv := h.row z (List.mem_of_getElem? hz)
  have e := take_get hz
  have hs := h.srt
  rw [e] at hs
  have hp := (List.pairwise_append.1 hs).2.2
  have hlt : ∀ p ∈ M.take j, strlt p.1 z.1 := fun p hp9 => hp p hp9 z (by simp)
  refine ⟨hv, ?_, ?_, hlt⟩
  · unfold setM
    rw [if_neg (by rintro ⟨h1, h2⟩; rcases hv.keep with h3 | h3; · rw [h1] at h3; cases h3
                   · exact h3 h2), ins_end hlt, take_snoc' hz]
  · rw [drop_at hz, rowsB_cons]
structure RowOk (ys : List UInt8) : Prop where
  no : NoErr ys
  has : (rdHas ys).toNat ≤ 1
  home : rdHome ys < 3
def rowP (ys : List UInt8) : ByteArray × RecM := (rdKey ys, ⟨decide (rdHas ys = 1), rdVal ys, ((rdHome ys % 3 : Nat) : Int), (rdCnt ys : Int)⟩)
theorem orn {b : Bool} {n : Nat} : (b || !decide ((n : Int) = 0)) = false ↔ b = false ∧ n = 0 := by
  cases b <;> simp <;> omega
theorem row_bad {bd b7 b3 b36 b42 b44 b' : Bool} {ys : List UInt8} (h7 : b7 = (bd || !decide (((textR ys).2.1 : Int) = 0))) (h3 : b3 = false ↔ b7 = false ∧ (byteR (y1 ys)).2.1 = 0 ∧ (rdHas ys).toNat ≤ 1)
    (h36 : b36 = (b3 || !decide (((textR (y2 ys)).2.1 : Int) = 0))) (h42 : b42 = (b36 || !decide (((numR 0 0 (y3 ys)).2.1 : Int) = 0))) (h44 : b44 = (b42 || !decide (((numR 0 0 (y4 ys)).2.1 : Int) = 0))) (h' : b' = false ↔ b44 = false ∧ rdHome ys < 3) : b' = false ↔ bd = false ∧ RowOk ys := by
  rw [h', h44, orn, h42, orn, h36, orn, h3, h7, orn]
  exact ⟨fun ⟨⟨⟨⟨⟨⟨a, b⟩, c, d⟩, e⟩, f⟩, g⟩, h⟩ => ⟨a, ⟨b, c, e, f, g⟩, d, h⟩, fun ⟨a, ⟨b, c, e, f, g⟩, d, h⟩ => ⟨⟨⟨⟨⟨⟨a, b⟩, c, d⟩, e⟩, f⟩, g⟩, h⟩⟩
theorem u8dec (b : UInt8) : decide ((b.toNat : Int) = 1) = decide (b = 1) := by
  have : ((b.toNat : Int) = 1) ↔ b = 1 := ⟨fun h => UInt8.toNat_inj.1 (show b.toNat = 1 by omega), fun h => by rw [h]; rfl⟩
  exact decide_eq_decide.2 this
theorem textR_pos {t : List UInt8} (h : (textR t).2.1 = 0) : 0 < (textR t).2.2 := by
  by_cases h1 : (numR 0 0 t).2.1 = 0
  · by_cases h2 : t.length - (numR 0 0 t).2.2 < (numR 0 0 t).1
    · rw [textR_short h1 h2] at h; simp at h
    · rw [textR_ok h1 h2]
      have := (numR_used t 0 0).2.2.1 h1
      show 0 < _ + _
      omega
  · rw [textR_err h1] at h; exact absurd h h1
theorem has_le {bd : Bool} {e : Nat} {b : UInt8} {B : Bool} (h : B = true ∧ (bd = true ∨ bd = false ∧ ¬ ((e : Int) = 0)) ∨ bd = false ∧ (e : Int) = 0 ∧ B = decide ((1 : Int) < (b.toNat : Int))) : B = false ↔ bd = false ∧ e = 0 ∧ b.toNat ≤ 1 := by
  rcases h with ⟨h1, h2⟩ | ⟨h1, h2, h3⟩
  · rw [h1]; refine ⟨fun h => (by cases h), fun ⟨h3, h4, _⟩ => ?_⟩
    rcases h2 with h2 | ⟨_, h2⟩
    · rw [h2] at h3; cases h3
    · omega
  · rw [h3, decide_eq_false_iff_not]; exact ⟨fun h => ⟨h1, by omega, by omega⟩, fun ⟨_, _, h⟩ => by omega⟩
theorem home_le {bd : Bool} {n : Nat} {B : Bool} (h : B = true ∧ bd = true ∨ bd = false ∧ B = decide ((3 : Int) ≤ (n : Int))) : B = false ↔ bd = false ∧ n < 3 := by
  rcases h with ⟨h1, h2⟩ | ⟨h1, h3⟩
  · rw [h1, h2]; simp
  · rw [h3, decide_eq_false_iff_not]; exact ⟨fun h => ⟨h1, by omega⟩, fun ⟨_, h⟩ => by omega⟩
end
section
set_option linter.unusedVariables false
set_option linter.unusedSimpArgs false
set_option maxRecDepth 10000
open Go.RowKit Classical
theorem EyeOk.next {W : World} {a ay ay' : Option Addr} {bs ys ys' : List UInt8} {i cy cy' u : Nat} (h : EyeOk W a bs i ys ay cy) (h' : EyeOk W a bs (i + u) ys' ay' cy') : ys' = ys.drop u := by rw [h'.is, h.is, List.drop_drop]
theorem rdnum_ {W : World} {F : List Res} {k q i : Nat} {bs ys : List UInt8} {a ay : Option Addr} {c cy : Nat} {bd : Bool} (ok : EyeOk W a bs i ys ay cy) : CS Try.prog 47 #[.pointer (some ⟨q, 0, none⟩)] W (blk q (.cells #[.pointer (some ⟨k, 0, none⟩), .bool bd] 86 (0, 0)) :: blk k (.cells #[.slice ay (ys).length cy] 116 (0, 0)) :: row e8.T e8.sz a (bs).length c (flat e8 bs) :: F) (fun r L' => ∃ (b' : Bool) (ys' : List UInt8) (ay' : Option Addr) (cy' : Nat), b' = (bd || !decide (((numR 0 0 ys).2.1 : Int) = 0)) ∧ EyeOk W a bs (i + (numR 0 0 ys).2.2) ys' ay' cy' ∧ r = .int .u64 ((numR 0 0 ys).1 : Int) ∧ L' = blk q (.cells #[.pointer (some ⟨k, 0, none⟩), .bool b'] 86 (0, 0)) :: blk k (.cells #[.slice ay' (ys').length cy'] 116 (0, 0)) :: row e8.T e8.sz a (bs).length c (flat e8 bs) :: F) := by
 refine f_door (l0 := [(0, .pointer (some ⟨q, 0, none⟩))]) Try.func47 Try.ntmps47 rfl rfl rfl ?_
 refine c_seq (c_region (o_assign rfl rfl (l_nil (q_then (c_seq (c_region (o_move rfl rfl (o_nil rfl rfl ?_))))))))
 refine o_fieldAddr (q := ⟨q, 0, none⟩) rfl rfl Try.underlying86 rfl ti83 rfl ?_
 refine o_load1 rfl rfl Try.underlying83 rfl (rd_mem 0 rfl rfl) ?_
 refine l_f2 (l_f2 ?_)
 refine o_call rfl cal62 rfl (eyeNum ok) ?_
 rintro _ _ ⟨ys10, ay10, cy10, ok10, rfl, rfl⟩
 have dr10 : ys10 = ys.drop (numR 0 0 ys).2.2 := EyeOk.next ok ok10
 refine o_move rfl rfl (o_extract rfl rfl rfl (o_extract rfl rfl rfl (o_assign rfl rfl (o_assign rfl rfl (l_nil (q_then (c_seq (c_region (o_move rfl rfl ?_)))))))))
 refine o_move rfl rfl (o_nil rfl rfl ?_)
 refine o_fieldAddr (q := ⟨q, 1, none⟩) rfl rfl Try.underlying86 rfl ti4 rfl ?_
 refine o_load1 rfl rfl Try.underlying4 rfl (rd_mem 2 rfl rfl) ?_
 refine o_move rfl rfl ?_
 refine l_split (t := 18) rfl (fun h1 => ?_) (fun h1 => ?_)
 · -- h1T
  have h1b := h1
  try simp only [decide_eq_true_eq, decide_eq_false_iff_not, Bool.not_eq_eq_eq_not, Bool.not_true, Bool.not_false, Bool.not_eq_true', Bool.not_eq_false', Int.not_lt, Int.not_le, Bool.or_eq_true, Bool.and_eq_true] at h1
  refine o_no rfl rfl rfl rfl (o_no rfl rfl rfl rfl (o_pick_true rfl rfl rfl (o_nil rfl rfl ?_)))
  refine o_fieldAddr (q := ⟨q, 1, none⟩) rfl rfl Try.underlying86 rfl ti4 rfl ?_
  refine l_f2 ?_
  refine o_store1 rfl rfl rfl ti4 rfl rfl ?_
  refine l_nil (q_then (c_seq (c_region (o_move rfl rfl (o_assign rfl rfl (l_nil (q_then (c_ret ?_))))))))
  exact f_ret (r_one rfl rfl) (⟨true, ys10, ay10, cy10, (by simp_all), ok10, rfl, rfl⟩) (fun w S => S)
 · -- h1F
  have h1b := h1
  try simp only [decide_eq_true_eq, decide_eq_false_iff_not, Bool.not_eq_eq_eq_not, Bool.not_true, Bool.not_false, Bool.not_eq_true', Bool.not_eq_false', Int.not_lt, Int.not_le, Bool.or_eq_true, Bool.and_eq_true] at h1
  refine o_yes rfl rfl rfl (o_move rfl rfl (o_yes rfl rfl rfl ?_))
  refine o_bin rfl rfl rfl b_neq ?_
  refine o_pick_false rfl rfl rfl (o_nil rfl rfl ?_)
  refine o_fieldAddr (q := ⟨q, 1, none⟩) rfl rfl Try.underlying86 rfl ti4 rfl ?_
  refine l_f2 ?_
  refine o_store1 rfl rfl rfl ti4 rfl rfl ?_
  refine l_nil (q_then (c_seq (c_region (o_move rfl rfl (o_assign rfl rfl (l_nil (q_then (c_ret ?_))))))))
  exact f_ret (r_one rfl rfl) (⟨!decide (((numR 0 0 ys).2.1 : Int) = 0), ys10, ay10, cy10, (by simp_all), ok10, rfl, rfl⟩) (fun w S => S)
theorem rdtext_ {W : World} {F : List Res} {k q i : Nat} {bs ys : List UInt8} {a ay : Option Addr} {c cy : Nat} {bd : Bool} (ok : EyeOk W a bs i ys ay cy) : CS Try.prog 63 #[.pointer (some ⟨q, 0, none⟩)] W (blk q (.cells #[.pointer (some ⟨k, 0, none⟩), .bool bd] 86 (0, 0)) :: blk k (.cells #[.slice ay (ys).length cy] 116 (0, 0)) :: row e8.T e8.sz a (bs).length c (flat e8 bs) :: F) (fun r L' => ∃ (out : List UInt8) (a2 : Option Addr) (c2 : Nat), out = (textR ys).1 ∧ ∃ (b' : Bool) (ys' : List UInt8) (ay' : Option Addr) (cy' : Nat), b' = (bd || !decide (((textR ys).2.1 : Int) = 0)) ∧ EyeOk W a bs (i + (textR ys).2.2) ys' ay' cy' ∧ r = .slice a2 out.length c2 ∧ L' = row e8.T e8.sz a2 (out).length c2 (flat e8 out) :: blk q (.cells #[.pointer (some ⟨k, 0, none⟩), .bool b'] 86 (0, 0)) :: blk k (.cells #[.slice ay' (ys').length cy'] 116 (0, 0)) :: row e8.T e8.sz a (bs).length c (flat e8 bs) :: F) := by
 refine f_door (l0 := [(0, .pointer (some ⟨q, 0, none⟩))]) Try.func63 Try.ntmps63 rfl rfl rfl ?_
 refine c_seq (c_region (o_assign rfl rfl (l_nil (q_then (c_seq (c_region (o_move rfl rfl (o_nil rfl rfl ?_))))))))
 refine o_fieldAddr (q := ⟨q, 0, none⟩) rfl rfl Try.underlying86 rfl ti83 rfl ?_
 refine o_load1 rfl rfl Try.underlying83 rfl (rd_mem 0 rfl rfl) ?_
 refine l_f2 (l_f2 ?_)
 refine o_call rfl cal70 rfl (eyeText ok) ?_
 rintro _ _ ⟨out10, ys10, ay10, cy10, a10, c10, hout10, ok10, rfl, rfl⟩
 have dr10 : ys10 = ys.drop (textR ys).2.2 := EyeOk.next ok ok10
 refine o_move rfl rfl (o_extract rfl rfl rfl (o_extract rfl rfl rfl (o_assign rfl rfl (o_assign rfl rfl (l_nil (q_then (c_seq (c_region (o_move rfl rfl ?_)))))))))
 refine o_move rfl rfl (o_nil rfl rfl ?_)
 refine o_fieldAddr (q := ⟨q, 1, none⟩) rfl rfl Try.underlying86 rfl ti4 rfl ?_
 refine o_load1 rfl rfl Try.underlying4 rfl (rd_mem 3 rfl rfl) ?_
 refine o_move rfl rfl ?_
 refine l_split (t := 18) rfl (fun h1 => ?_) (fun h1 => ?_)
 · -- h1T
  have h1b := h1
  try simp only [decide_eq_true_eq, decide_eq_false_iff_not, Bool.not_eq_eq_eq_not, Bool.not_true, Bool.not_false, Bool.not_eq_true', Bool.not_eq_false', Int.not_lt, Int.not_le, Bool.or_eq_true, Bool.and_eq_true] at h1
  refine o_no rfl rfl rfl rfl (o_no rfl rfl rfl rfl (o_pick_true rfl rfl rfl (o_nil rfl rfl ?_)))
  refine o_fieldAddr (q := ⟨q, 1, none⟩) rfl rfl Try.underlying86 rfl ti4 rfl ?_
  refine l_f3 ?_
  refine o_store1 rfl rfl rfl ti4 rfl rfl ?_
  refine l_nil (q_then (c_seq (c_region (o_move rfl rfl (o_assign rfl rfl (l_nil (q_then (c_ret (qP p3 ?_)))))))))
  refine qP p3 (qP p2 (qP p3 ?_))
  exact f_ret (r_one rfl rfl) (⟨out10, a10, c10, hout10, true, ys10, ay10, cy10, (by simp_all), ok10, rfl, rfl⟩) (fun w S => S)
 · -- h1F
  have h1b := h1
  try simp only [decide_eq_true_eq, decide_eq_false_iff_not, Bool.not_eq_eq_eq_not, Bool.not_true, Bool.not_false, Bool.not_eq_true', Bool.not_eq_false', Int.not_lt, Int.not_le, Bool.or_eq_true, Bool.and_eq_true] at h1
  refine o_yes rfl rfl rfl (o_move rfl rfl (o_yes rfl rfl rfl ?_))
  refine o_bin rfl rfl rfl b_neq ?_
  refine o_pick_false rfl rfl rfl (o_nil rfl rfl ?_)
  refine o_fieldAddr (q := ⟨q, 1, none⟩) rfl rfl Try.underlying86 rfl ti4 rfl ?_
  refine l_f3 ?_
  refine o_store1 rfl rfl rfl ti4 rfl rfl ?_
  refine l_nil (q_then (c_seq (c_region (o_move rfl rfl (o_assign rfl rfl (l_nil (q_then (c_ret (qP p3 ?_)))))))))
  refine qP p3 (qP p2 (qP p3 ?_))
  exact f_ret (r_one rfl rfl) (⟨out10, a10, c10, hout10, !decide (((textR ys).2.1 : Int) = 0), ys10, ay10, cy10, (by simp_all), ok10, rfl, rfl⟩) (fun w S => S)
end
section
set_option linter.unusedVariables false
set_option linter.unusedSimpArgs false
set_option maxRecDepth 10000
open Go.RowKit Classical
set_option maxHeartbeats 1000000 in
theorem rdrow_ {W : World} {F : List Res} {k q i : Nat} {bs ys : List UInt8} {a ay : Option Addr} {c cy : Nat} {bd : Bool} (ok : EyeOk W a bs i ys ay cy) : CS Try.prog 48 #[.pointer (some ⟨q, 0, none⟩)] W (blk q (.cells #[.pointer (some ⟨k, 0, none⟩), .bool bd] 86 (0, 0)) :: blk k (.cells #[.slice ay (ys).length cy] 116 (0, 0)) :: row e8.T e8.sz a (bs).length c (flat e8 bs) :: F) (fun r L' => ∃ (x : ItA) (b' : Bool) (i' : Nat) (ys' : List UInt8) (ay' : Option Addr) (cy' : Nat), proj x = rowP ys ∧ (b' = false ↔ bd = false ∧ RowOk ys) ∧ i ≤ i' ∧ (b' = false → i < i') ∧ ys' = y5 ys ∧ EyeOk W a bs i' ys' ay' cy' ∧ r = .agg #[.string x.f_key, .bool x.f_value.f_Has, .slice x.f_value.f_Value.a (x.f_value.f_Value.xs).length x.f_value.f_Value.c, .int .i64 x.f_value.f_Home, .int .u64 x.f_value.f_Count] ∧ L' = row e8.T e8.sz x.f_value.f_Value.a (x.f_value.f_Value.xs).length x.f_value.f_Value.c (flat e8 x.f_value.f_Value.xs) :: blk q (.cells #[.pointer (some ⟨k, 0, none⟩), .bool b'] 86 (0, 0)) :: blk k (.cells #[.slice ay' (ys').length cy'] 116 (0, 0)) :: row e8.T e8.sz a (bs).length c (flat e8 bs) :: F) := by
 refine f_door (l0 := [(0, .pointer (some ⟨q, 0, none⟩))]) Try.func48 Try.ntmps48 rfl rfl rfl ?_
 refine c_seq (c_region ?_)
 refine o_alloc rfl ti49 fun b2 => ?_
 refine l_nil (q_then (c_seq (c_region (o_move rfl rfl (l_f3 (l_f3 (l_f3 ?_)))))))
 refine o_call rfl cal63 rfl (rdtext_ ok) ?_
 rintro _ _ ⟨out7, a7, c7, hout7, b7, ys7, ay7, cy7, hb7, ok7, rfl, rfl⟩
 have dr7 : ys7 = ys.drop (textR ys).2.2 := EyeOk.next ok ok7
 refine o_bytesStr (e := e8) rfl rfl rfl Try.underlying23 Try.underlying5 Try.underlying9 (rds_own e8_ok 0 rfl) ?_
 refine o_fieldAddr (q := ⟨b2, 0, none⟩) rfl rfl Try.underlying49 rfl ti9 rfl ?_
 refine l_f4 ?_
 refine o_store1 rfl rfl rfl ti9 rfl rfl ?_
 refine l_nil (q_then (c_seq (c_region (o_move rfl rfl (o_nil rfl rfl ?_)))))
 refine o_fieldAddr (q := ⟨q, 0, none⟩) rfl rfl Try.underlying86 rfl ti83 rfl ?_
 refine o_load1 rfl rfl Try.underlying83 rfl (rd_mem 2 rfl rfl) ?_
 refine l_f4 (l_f4 ?_)
 refine o_call rfl cal64 rfl (eyeByte ok7) ?_
 rintro _ _ ⟨ys15, ay15, cy15, ok15, rfl, rfl⟩
 have dr15 : ys15 = ys7.drop (byteR ys7).2.2 := EyeOk.next ok7 ok15
 refine o_move rfl rfl (o_extract rfl rfl rfl (o_extract rfl rfl rfl (o_assign rfl rfl (o_assign rfl rfl (l_nil (q_then (c_seq (c_region (o_move rfl rfl ?_)))))))))
 refine o_move rfl rfl (o_nil rfl rfl ?_)
 refine o_fieldAddr (q := ⟨q, 1, none⟩) rfl rfl Try.underlying86 rfl ti4 rfl ?_
 refine o_load1 rfl rfl Try.underlying4 rfl (rd_mem 4 rfl rfl) ?_
 refine o_move rfl rfl ?_
 refine l_split (t := 23) rfl (fun h1 => ?_) (fun h1 => ?_)
 · -- h1T
  have h1b := h1
  try simp only [decide_eq_true_eq, decide_eq_false_iff_not, Bool.not_eq_eq_eq_not, Bool.not_true, Bool.not_false, Bool.not_eq_true', Bool.not_eq_false', Int.not_lt, Int.not_le, Bool.or_eq_true, Bool.and_eq_true] at h1
  refine o_no rfl rfl rfl rfl (o_no rfl rfl rfl rfl (o_pick_true rfl rfl rfl (o_move rfl rfl (o_no rfl rfl rfl rfl (o_no rfl rfl rfl rfl (o_pick_true rfl rfl rfl (o_nil rfl rfl ?_)))))))
  refine o_fieldAddr (q := ⟨q, 1, none⟩) rfl rfl Try.underlying86 rfl ti4 rfl ?_
  refine l_f4 ?_
  refine o_store1 rfl rfl rfl ti4 rfl rfl ?_
  refine l_nil (q_then (c_seq (c_region (o_move rfl rfl ?_))))
  refine o_bin rfl rfl rfl b_eql ?_
  refine o_move rfl rfl (l_f2 (l_f2 (l_f2 ?_)))
  refine o_call rfl cal63 rfl (rdtext_ ok15) ?_
  rintro _ _ ⟨out36, a36, c36, hout36, b36, ys36, ay36, cy36, hb36, ok36, rfl, rfl⟩
  have dr36 : ys36 = ys15.drop (textR ys15).2.2 := EyeOk.next ok15 ok36
  refine o_fieldAddr (q := ⟨b2, 1, none⟩) rfl rfl Try.underlying49 rfl ti36 rfl ?_
  refine o_fieldAddr (q := ⟨b2, 1, none⟩) rfl rfl Try.underlying36 rfl ti4 rfl ?_
  refine l_f4 ?_
  refine o_store1 rfl rfl rfl ti4 rfl rfl ?_
  refine o_fieldAddr (q := ⟨b2, 1, none⟩) rfl rfl Try.underlying49 rfl ti36 rfl ?_
  refine o_fieldAddr (q := ⟨b2, 2, none⟩) rfl rfl Try.underlying36 rfl ti23 rfl ?_
  refine o_store1 rfl rfl rfl ti23 rfl rfl ?_
  refine l_nil (q_then (c_seq (c_region (o_move rfl rfl (l_f4 (l_f4 (l_f4 ?_)))))))
  refine o_call rfl cal47 rfl (rdnum_ ok36) ?_
  rintro _ _ ⟨b42, ys42, ay42, cy42, hb42, ok42, rfl, rfl⟩
  have dr42 : ys42 = ys36.drop (numR 0 0 ys36).2.2 := EyeOk.next ok36 ok42
  refine o_assign rfl rfl (l_nil (q_then (c_seq (c_region (o_move rfl rfl (l_f2 (l_f2 (l_f2 ?_))))))))
  refine o_call rfl cal47 rfl (rdnum_ ok42) ?_
  rintro _ _ ⟨b44, ys44, ay44, cy44, hb44, ok44, rfl, rfl⟩
  have dr44 : ys44 = ys42.drop (numR 0 0 ys42).2.2 := EyeOk.next ok42 ok44
  refine o_fieldAddr (q := ⟨b2, 1, none⟩) rfl rfl Try.underlying49 rfl ti36 rfl ?_
  refine o_fieldAddr (q := ⟨b2, 4, none⟩) rfl rfl Try.underlying36 rfl ti34 rfl ?_
  refine l_f3 ?_
  refine o_store1 rfl rfl rfl ti34 rfl rfl ?_
  refine l_nil (q_then (c_seq (c_region (o_move rfl rfl (o_move rfl rfl (o_nil rfl rfl ?_))))))
  refine o_fieldAddr (q := ⟨q, 1, none⟩) rfl rfl Try.underlying86 rfl ti4 rfl ?_
  refine o_load1 rfl rfl Try.underlying4 rfl (rd_mem 1 rfl rfl) ?_
  refine o_move rfl rfl ?_
  refine l_split (t := 52) rfl (fun h2 => ?_) (fun h2 => ?_)
  · -- h2T
   have h2b := h2
   try simp only [decide_eq_true_eq, decide_eq_false_iff_not, Bool.not_eq_eq_eq_not, Bool.not_true, Bool.not_false, Bool.not_eq_true', Bool.not_eq_false', Int.not_lt, Int.not_le, Bool.or_eq_true, Bool.and_eq_true] at h2
   refine o_no rfl rfl rfl rfl (o_no rfl rfl rfl rfl (o_pick_true rfl rfl rfl (o_nil rfl rfl ?_)))
   refine o_fieldAddr (q := ⟨q, 1, none⟩) rfl rfl Try.underlying86 rfl ti4 rfl ?_
   refine l_f1 ?_
   refine o_store1 rfl rfl rfl ti4 rfl rfl ?_
   refine l_nil (q_then (c_seq (c_region (o_move rfl rfl ?_))))
   refine o_bin rfl rfl rfl (b_rem (by omega) (show Int.tmod ((numR 0 0 ys36).1 : Int) 3 = (((numR 0 0 ys36).1 % 3 : Nat) : Int) from rfl)) ?_
   refine o_int rfl rfl Try.underlying34 Try.underlying3 (wrap_i64 (by omega) (by omega)) ?_
   refine o_fieldAddr (q := ⟨b2, 1, none⟩) rfl rfl Try.underlying49 rfl ti36 rfl ?_
   refine o_fieldAddr (q := ⟨b2, 3, none⟩) rfl rfl Try.underlying36 rfl ti3 rfl ?_
   refine l_f1 ?_
   refine o_store1 rfl rfl rfl ti3 rfl rfl ?_
   refine l_nil (q_then (c_seq ?_))
   have f7 : ys7 = y1 ys := dr7
   have f15 : ys15 = y2 ys := by rw [dr15, f7]; rfl
   have f36 : ys36 = y3 ys := by rw [dr36, f15]; rfl
   have f42 : ys42 = y4 ys := by rw [dr42, f36]; rfl
   have hye : ys44 = y5 ys := by rw [dr44, f42]; rfl
   have e1 : rdHas ys = (byteR ys7).1 := by rw [f7]; rfl
   have e2 : (byteR (y1 ys)).2.1 = (byteR ys7).2.1 := by rw [f7]
   have e3 : rdHome ys = (numR 0 0 ys36).1 := by rw [f36]; rfl
   have hb3 : true = false ↔ b7 = false ∧ (byteR (y1 ys)).2.1 = 0 ∧ (rdHas ys).toNat ≤ 1 := by rw [e1, e2]; exact has_le (by first | exact .inl ⟨rfl, .inl (by assumption)⟩ | exact .inl ⟨rfl, .inr ⟨by assumption, by first | assumption | (simp_all; done)⟩⟩ | exact .inr ⟨by assumption, by assumption, rfl⟩)
   have hb5 : true = false ↔ b44 = false ∧ rdHome ys < 3 := by rw [e3]; exact home_le (by first | exact .inl ⟨rfl, by assumption⟩ | exact .inr ⟨by assumption, rfl⟩)
   have hbad : true = false ↔ bd = false ∧ RowOk ys := row_bad (b36 := b36) (b42 := b42) (b44 := b44) hb7 hb3 (by rw [← f15]; exact hb36) (by rw [← f36]; exact hb42) (by rw [← f42]; exact hb44) hb5
   have hlt : true = false → i < i + (textR ys).2.2 + (byteR ys7).2.2 + (textR ys15).2.2 + (numR 0 0 ys36).2.2 + (numR 0 0 ys42).2.2 := fun h => by have h9 := textR_pos (hbad.1 h).2.no.e1; omega
   refine c_region ?_
   refine o_loadn (vs := [_, _, _, _, _]) rfl rfl Try.underlying49 rfl ti49 (rdn_lit 0 rfl rfl) ?_
   refine o_storen rfl rfl ti49 rfl rfl rfl rfl ?_
   refine l_nil (q_then (c_ret ?_))
   refine f_retq (.inl rfl) (rs_1 rfl (rs_celln (vs := [.string (bts out7), .bool (decide (((byteR ys7).1.toNat : Int) = 1)), .slice a36 (out36).length c36, .int .i64 (((numR 0 0 ys36).1 % 3 : Nat) : Int), .int .u64 ((numR 0 0 ys42).1 : Int)]) rfl Try.underlying49 rfl ti49 (rdn_lit 0 rfl rfl))) (fun w S => ?_)
   replace S := S.tail
   replace S := (S.perm p4).tail
   replace S := S.perm p2
   replace S := S.perm p2
   replace S := S.perm p2
   replace S := S.perm p3
   exact ⟨_, ⟨(⟨bts out7, ⟨decide (((byteR ys7).1.toNat : Int) = 1), ⟨a36, out36, c36⟩, (((numR 0 0 ys36).1 % 3 : Nat) : Int), ((numR 0 0 ys42).1 : Int)⟩⟩ : ItA), true, _, _, _, _, (by unfold rowP rdKey rdVal rdCnt; rw [e1, e3, ← f15, ← f42, ← u8dec, ← hout7, ← hout36]; try rfl), hbad, (by omega), hlt, hye, ok44, rfl, rfl⟩, (fun w S => S) w S⟩
  · -- h2F
   have h2b := h2
   try simp only [decide_eq_true_eq, decide_eq_false_iff_not, Bool.not_eq_eq_eq_not, Bool.not_true, Bool.not_false, Bool.not_eq_true', Bool.not_eq_false', Int.not_lt, Int.not_le, Bool.or_eq_true, Bool.and_eq_true] at h2
   refine o_yes rfl rfl rfl (o_move rfl rfl (o_yes rfl rfl rfl ?_))
   refine o_bin rfl rfl rfl b_geq ?_
   refine o_pick_false rfl rfl rfl (o_nil rfl rfl ?_)
   refine o_fieldAddr (q := ⟨q, 1, none⟩) rfl rfl Try.underlying86 rfl ti4 rfl ?_
   refine l_f1 ?_
   refine o_store1 rfl rfl rfl ti4 rfl rfl ?_
   refine l_nil (q_then (c_seq (c_region (o_move rfl rfl ?_))))
   refine o_bin rfl rfl rfl (b_rem (by omega) (show Int.tmod ((numR 0 0 ys36).1 : Int) 3 = (((numR 0 0 ys36).1 % 3 : Nat) : Int) from rfl)) ?_
   refine o_int rfl rfl Try.underlying34 Try.underlying3 (wrap_i64 (by omega) (by omega)) ?_
   refine o_fieldAddr (q := ⟨b2, 1, none⟩) rfl rfl Try.underlying49 rfl ti36 rfl ?_
   refine o_fieldAddr (q := ⟨b2, 3, none⟩) rfl rfl Try.underlying36 rfl ti3 rfl ?_
   refine l_f1 ?_
   refine o_store1 rfl rfl rfl ti3 rfl rfl ?_
   refine l_nil (q_then (c_seq ?_))
   have f7 : ys7 = y1 ys := dr7
   have f15 : ys15 = y2 ys := by rw [dr15, f7]; rfl
   have f36 : ys36 = y3 ys := by rw [dr36, f15]; rfl
   have f42 : ys42 = y4 ys := by rw [dr42, f36]; rfl
   have hye : ys44 = y5 ys := by rw [dr44, f42]; rfl
   have e1 : rdHas ys = (byteR ys7).1 := by rw [f7]; rfl
   have e2 : (byteR (y1 ys)).2.1 = (byteR ys7).2.1 := by rw [f7]
   have e3 : rdHome ys = (numR 0 0 ys36).1 := by rw [f36]; rfl
   have hb3 : true = false ↔ b7 = false ∧ (byteR (y1 ys)).2.1 = 0 ∧ (rdHas ys).toNat ≤ 1 := by rw [e1, e2]; exact has_le (by first | exact .inl ⟨rfl, .inl (by assumption)⟩ | exact .inl ⟨rfl, .inr ⟨by assumption, by first | assumption | (simp_all; done)⟩⟩ | exact .inr ⟨by assumption, by assumption, rfl⟩)
   have hb5 : (decide (3 ≤ ((numR 0 0 ys36).1 : Int))) = false ↔ b44 = false ∧ rdHome ys < 3 := by rw [e3]; exact home_le (by first | exact .inl ⟨rfl, by assumption⟩ | exact .inr ⟨by assumption, rfl⟩)
   have hbad : (decide (3 ≤ ((numR 0 0 ys36).1 : Int))) = false ↔ bd = false ∧ RowOk ys := row_bad (b36 := b36) (b42 := b42) (b44 := b44) hb7 hb3 (by rw [← f15]; exact hb36) (by rw [← f36]; exact hb42) (by rw [← f42]; exact hb44) hb5
   have hlt : (decide (3 ≤ ((numR 0 0 ys36).1 : Int))) = false → i < i + (textR ys).2.2 + (byteR ys7).2.2 + (textR ys15).2.2 + (numR 0 0 ys36).2.2 + (numR 0 0 ys42).2.2 := fun h => by have h9 := textR_pos (hbad.1 h).2.no.e1; omega
   refine c_region ?_
   refine o_loadn (vs := [_, _, _, _, _]) rfl rfl Try.underlying49 rfl ti49 (rdn_lit 0 rfl rfl) ?_
   refine o_storen rfl rfl ti49 rfl rfl rfl rfl ?_
   refine l_nil (q_then (c_ret ?_))
   refine f_retq (.inl rfl) (rs_1 rfl (rs_celln (vs := [.string (bts out7), .bool (decide (((byteR ys7).1.toNat : Int) = 1)), .slice a36 (out36).length c36, .int .i64 (((numR 0 0 ys36).1 % 3 : Nat) : Int), .int .u64 ((numR 0 0 ys42).1 : Int)]) rfl Try.underlying49 rfl ti49 (rdn_lit 0 rfl rfl))) (fun w S => ?_)
   replace S := S.tail
   replace S := (S.perm p4).tail
   replace S := S.perm p2
   replace S := S.perm p2
   replace S := S.perm p2
   replace S := S.perm p3
   exact ⟨_, ⟨(⟨bts out7, ⟨decide (((byteR ys7).1.toNat : Int) = 1), ⟨a36, out36, c36⟩, (((numR 0 0 ys36).1 % 3 : Nat) : Int), ((numR 0 0 ys42).1 : Int)⟩⟩ : ItA), decide (3 ≤ ((numR 0 0 ys36).1 : Int)), _, _, _, _, (by unfold rowP rdKey rdVal rdCnt; rw [e1, e3, ← f15, ← f42, ← u8dec, ← hout7, ← hout36]; try rfl), hbad, (by omega), hlt, hye, ok44, rfl, rfl⟩, (fun w S => S) w S⟩
 · -- h1F
  have h1b := h1
  try simp only [decide_eq_true_eq, decide_eq_false_iff_not, Bool.not_eq_eq_eq_not, Bool.not_true, Bool.not_false, Bool.not_eq_true', Bool.not_eq_false', Int.not_lt, Int.not_le, Bool.or_eq_true, Bool.and_eq_true] at h1
  refine o_yes rfl rfl rfl (o_move rfl rfl (o_yes rfl rfl rfl ?_))
  refine o_bin rfl rfl rfl b_neq ?_
  refine o_pick_false rfl rfl rfl (o_move rfl rfl ?_)
  refine l_split (t := 27) rfl (fun h3 => ?_) (fun h3 => ?_)
  · -- h3T
   have h3b := h3
   try simp only [Bool.not_eq_true', decide_eq_false_iff_not, Int.not_lt, Int.not_le] at h3
   refine o_no rfl rfl rfl rfl (o_no rfl rfl rfl rfl (o_pick_true rfl rfl rfl (o_nil rfl rfl ?_)))
   refine o_fieldAddr (q := ⟨q, 1, none⟩) rfl rfl Try.underlying86 rfl ti4 rfl ?_
   refine l_f4 ?_
   refine o_store1 rfl rfl rfl ti4 rfl rfl ?_
   refine l_nil (q_then (c_seq (c_region (o_move rfl rfl ?_))))
   refine o_bin rfl rfl rfl b_eql ?_
   refine o_move rfl rfl (l_f2 (l_f2 (l_f2 ?_)))
   refine o_call rfl cal63 rfl (rdtext_ ok15) ?_
   rintro _ _ ⟨out36, a36, c36, hout36, b36, ys36, ay36, cy36, hb36, ok36, rfl, rfl⟩
   have dr36 : ys36 = ys15.drop (textR ys15).2.2 := EyeOk.next ok15 ok36
   refine o_fieldAddr (q := ⟨b2, 1, none⟩) rfl rfl Try.underlying49 rfl ti36 rfl ?_
   refine o_fieldAddr (q := ⟨b2, 1, none⟩) rfl rfl Try.underlying36 rfl ti4 rfl ?_
   refine l_f4 ?_
   refine o_store1 rfl rfl rfl ti4 rfl rfl ?_
   refine o_fieldAddr (q := ⟨b2, 1, none⟩) rfl rfl Try.underlying49 rfl ti36 rfl ?_
   refine o_fieldAddr (q := ⟨b2, 2, none⟩) rfl rfl Try.underlying36 rfl ti23 rfl ?_
   refine o_store1 rfl rfl rfl ti23 rfl rfl ?_
   refine l_nil (q_then (c_seq (c_region (o_move rfl rfl (l_f4 (l_f4 (l_f4 ?_)))))))
   refine o_call rfl cal47 rfl (rdnum_ ok36) ?_
   rintro _ _ ⟨b42, ys42, ay42, cy42, hb42, ok42, rfl, rfl⟩
   have dr42 : ys42 = ys36.drop (numR 0 0 ys36).2.2 := EyeOk.next ok36 ok42
   refine o_assign rfl rfl (l_nil (q_then (c_seq (c_region (o_move rfl rfl (l_f2 (l_f2 (l_f2 ?_))))))))
   refine o_call rfl cal47 rfl (rdnum_ ok42) ?_
   rintro _ _ ⟨b44, ys44, ay44, cy44, hb44, ok44, rfl, rfl⟩
   have dr44 : ys44 = ys42.drop (numR 0 0 ys42).2.2 := EyeOk.next ok42 ok44
   refine o_fieldAddr (q := ⟨b2, 1, none⟩) rfl rfl Try.underlying49 rfl ti36 rfl ?_
   refine o_fieldAddr (q := ⟨b2, 4, none⟩) rfl rfl Try.underlying36 rfl ti34 rfl ?_
   refine l_f3 ?_
   refine o_store1 rfl rfl rfl ti34 rfl rfl ?_
   refine l_nil (q_then (c_seq (c_region (o_move rfl rfl (o_move rfl rfl (o_nil rfl rfl ?_))))))
   refine o_fieldAddr (q := ⟨q, 1, none⟩) rfl rfl Try.underlying86 rfl ti4 rfl ?_
   refine o_load1 rfl rfl Try.underlying4 rfl (rd_mem 1 rfl rfl) ?_
   refine o_move rfl rfl ?_
   refine l_split (t := 52) rfl (fun h4 => ?_) (fun h4 => ?_)
   · -- h4T
    have h4b := h4
    try simp only [decide_eq_true_eq, decide_eq_false_iff_not, Bool.not_eq_eq_eq_not, Bool.not_true, Bool.not_false, Bool.not_eq_true', Bool.not_eq_false', Int.not_lt, Int.not_le, Bool.or_eq_true, Bool.and_eq_true] at h4
    refine o_no rfl rfl rfl rfl (o_no rfl rfl rfl rfl (o_pick_true rfl rfl rfl (o_nil rfl rfl ?_)))
    refine o_fieldAddr (q := ⟨q, 1, none⟩) rfl rfl Try.underlying86 rfl ti4 rfl ?_
    refine l_f1 ?_
    refine o_store1 rfl rfl rfl ti4 rfl rfl ?_
    refine l_nil (q_then (c_seq (c_region (o_move rfl rfl ?_))))
    refine o_bin rfl rfl rfl (b_rem (by omega) (show Int.tmod ((numR 0 0 ys36).1 : Int) 3 = (((numR 0 0 ys36).1 % 3 : Nat) : Int) from rfl)) ?_
    refine o_int rfl rfl Try.underlying34 Try.underlying3 (wrap_i64 (by omega) (by omega)) ?_
    refine o_fieldAddr (q := ⟨b2, 1, none⟩) rfl rfl Try.underlying49 rfl ti36 rfl ?_
    refine o_fieldAddr (q := ⟨b2, 3, none⟩) rfl rfl Try.underlying36 rfl ti3 rfl ?_
    refine l_f1 ?_
    refine o_store1 rfl rfl rfl ti3 rfl rfl ?_
    refine l_nil (q_then (c_seq ?_))
    have f7 : ys7 = y1 ys := dr7
    have f15 : ys15 = y2 ys := by rw [dr15, f7]; rfl
    have f36 : ys36 = y3 ys := by rw [dr36, f15]; rfl
    have f42 : ys42 = y4 ys := by rw [dr42, f36]; rfl
    have hye : ys44 = y5 ys := by rw [dr44, f42]; rfl
    have e1 : rdHas ys = (byteR ys7).1 := by rw [f7]; rfl
    have e2 : (byteR (y1 ys)).2.1 = (byteR ys7).2.1 := by rw [f7]
    have e3 : rdHome ys = (numR 0 0 ys36).1 := by rw [f36]; rfl
    have hb3 : true = false ↔ b7 = false ∧ (byteR (y1 ys)).2.1 = 0 ∧ (rdHas ys).toNat ≤ 1 := by rw [e1, e2]; exact has_le (by first | exact .inl ⟨rfl, .inl (by assumption)⟩ | exact .inl ⟨rfl, .inr ⟨by assumption, by first | assumption | (simp_all; done)⟩⟩ | exact .inr ⟨by assumption, by assumption, rfl⟩)
    have hb5 : true = false ↔ b44 = false ∧ rdHome ys < 3 := by rw [e3]; exact home_le (by first | exact .inl ⟨rfl, by assumption⟩ | exact .inr ⟨by assumption, rfl⟩)
    have hbad : true = false ↔ bd = false ∧ RowOk ys := row_bad (b36 := b36) (b42 := b42) (b44 := b44) hb7 hb3 (by rw [← f15]; exact hb36) (by rw [← f36]; exact hb42) (by rw [← f42]; exact hb44) hb5
    have hlt : true = false → i < i + (textR ys).2.2 + (byteR ys7).2.2 + (textR ys15).2.2 + (numR 0 0 ys36).2.2 + (numR 0 0 ys42).2.2 := fun h => by have h9 := textR_pos (hbad.1 h).2.no.e1; omega
    refine c_region ?_
    refine o_loadn (vs := [_, _, _, _, _]) rfl rfl Try.underlying49 rfl ti49 (rdn_lit 0 rfl rfl) ?_
    refine o_storen rfl rfl ti49 rfl rfl rfl rfl ?_
    refine l_nil (q_then (c_ret ?_))
    refine f_retq (.inl rfl) (rs_1 rfl (rs_celln (vs := [.string (bts out7), .bool (decide (((byteR ys7).1.toNat : Int) = 1)), .slice a36 (out36).length c36, .int .i64 (((numR 0 0 ys36).1 % 3 : Nat) : Int), .int .u64 ((numR 0 0 ys42).1 : Int)]) rfl Try.underlying49 rfl ti49 (rdn_lit 0 rfl rfl))) (fun w S => ?_)
    replace S := S.tail
    replace S := (S.perm p4).tail
    replace S := S.perm p2
    replace S := S.perm p2
    replace S := S.perm p2
    replace S := S.perm p3
    exact ⟨_, ⟨(⟨bts out7, ⟨decide (((byteR ys7).1.toNat : Int) = 1), ⟨a36, out36, c36⟩, (((numR 0 0 ys36).1 % 3 : Nat) : Int), ((numR 0 0 ys42).1 : Int)⟩⟩ : ItA), true, _, _, _, _, (by unfold rowP rdKey rdVal rdCnt; rw [e1, e3, ← f15, ← f42, ← u8dec, ← hout7, ← hout36]; try rfl), hbad, (by omega), hlt, hye, ok44, rfl, rfl⟩, (fun w S => S) w S⟩
   · -- h4F
    have h4b := h4
    try simp only [decide_eq_true_eq, decide_eq_false_iff_not, Bool.not_eq_eq_eq_not, Bool.not_true, Bool.not_false, Bool.not_eq_true', Bool.not_eq_false', Int.not_lt, Int.not_le, Bool.or_eq_true, Bool.and_eq_true] at h4
    refine o_yes rfl rfl rfl (o_move rfl rfl (o_yes rfl rfl rfl ?_))
    refine o_bin rfl rfl rfl b_geq ?_
    refine o_pick_false rfl rfl rfl (o_nil rfl rfl ?_)
    refine o_fieldAddr (q := ⟨q, 1, none⟩) rfl rfl Try.underlying86 rfl ti4 rfl ?_
    refine l_f1 ?_
    refine o_store1 rfl rfl rfl ti4 rfl rfl ?_
    refine l_nil (q_then (c_seq (c_region (o_move rfl rfl ?_))))
    refine o_bin rfl rfl rfl (b_rem (by omega) (show Int.tmod ((numR 0 0 ys36).1 : Int) 3 = (((numR 0 0 ys36).1 % 3 : Nat) : Int) from rfl)) ?_
    refine o_int rfl rfl Try.underlying34 Try.underlying3 (wrap_i64 (by omega) (by omega)) ?_
    refine o_fieldAddr (q := ⟨b2, 1, none⟩) rfl rfl Try.underlying49 rfl ti36 rfl ?_
    refine o_fieldAddr (q := ⟨b2, 3, none⟩) rfl rfl Try.underlying36 rfl ti3 rfl ?_
    refine l_f1 ?_
    refine o_store1 rfl rfl rfl ti3 rfl rfl ?_
    refine l_nil (q_then (c_seq ?_))
    have f7 : ys7 = y1 ys := dr7
    have f15 : ys15 = y2 ys := by rw [dr15, f7]; rfl
    have f36 : ys36 = y3 ys := by rw [dr36, f15]; rfl
    have f42 : ys42 = y4 ys := by rw [dr42, f36]; rfl
    have hye : ys44 = y5 ys := by rw [dr44, f42]; rfl
    have e1 : rdHas ys = (byteR ys7).1 := by rw [f7]; rfl
    have e2 : (byteR (y1 ys)).2.1 = (byteR ys7).2.1 := by rw [f7]
    have e3 : rdHome ys = (numR 0 0 ys36).1 := by rw [f36]; rfl
    have hb3 : true = false ↔ b7 = false ∧ (byteR (y1 ys)).2.1 = 0 ∧ (rdHas ys).toNat ≤ 1 := by rw [e1, e2]; exact has_le (by first | exact .inl ⟨rfl, .inl (by assumption)⟩ | exact .inl ⟨rfl, .inr ⟨by assumption, by first | assumption | (simp_all; done)⟩⟩ | exact .inr ⟨by assumption, by assumption, rfl⟩)
    have hb5 : (decide (3 ≤ ((numR 0 0 ys36).1 : Int))) = false ↔ b44 = false ∧ rdHome ys < 3 := by rw [e3]; exact home_le (by first | exact .inl ⟨rfl, by assumption⟩ | exact .inr ⟨by assumption, rfl⟩)
    have hbad : (decide (3 ≤ ((numR 0 0 ys36).1 : Int))) = false ↔ bd = false ∧ RowOk ys := row_bad (b36 := b36) (b42 := b42) (b44 := b44) hb7 hb3 (by rw [← f15]; exact hb36) (by rw [← f36]; exact hb42) (by rw [← f42]; exact hb44) hb5
    have hlt : (decide (3 ≤ ((numR 0 0 ys36).1 : Int))) = false → i < i + (textR ys).2.2 + (byteR ys7).2.2 + (textR ys15).2.2 + (numR 0 0 ys36).2.2 + (numR 0 0 ys42).2.2 := fun h => by have h9 := textR_pos (hbad.1 h).2.no.e1; omega
    refine c_region ?_
    refine o_loadn (vs := [_, _, _, _, _]) rfl rfl Try.underlying49 rfl ti49 (rdn_lit 0 rfl rfl) ?_
    refine o_storen rfl rfl ti49 rfl rfl rfl rfl ?_
    refine l_nil (q_then (c_ret ?_))
    refine f_retq (.inl rfl) (rs_1 rfl (rs_celln (vs := [.string (bts out7), .bool (decide (((byteR ys7).1.toNat : Int) = 1)), .slice a36 (out36).length c36, .int .i64 (((numR 0 0 ys36).1 % 3 : Nat) : Int), .int .u64 ((numR 0 0 ys42).1 : Int)]) rfl Try.underlying49 rfl ti49 (rdn_lit 0 rfl rfl))) (fun w S => ?_)
    replace S := S.tail
    replace S := (S.perm p4).tail
    replace S := S.perm p2
    replace S := S.perm p2
    replace S := S.perm p2
    replace S := S.perm p3
    exact ⟨_, ⟨(⟨bts out7, ⟨decide (((byteR ys7).1.toNat : Int) = 1), ⟨a36, out36, c36⟩, (((numR 0 0 ys36).1 % 3 : Nat) : Int), ((numR 0 0 ys42).1 : Int)⟩⟩ : ItA), decide (3 ≤ ((numR 0 0 ys36).1 : Int)), _, _, _, _, (by unfold rowP rdKey rdVal rdCnt; rw [e1, e3, ← f15, ← f42, ← u8dec, ← hout7, ← hout36]; try rfl), hbad, (by omega), hlt, hye, ok44, rfl, rfl⟩, (fun w S => S) w S⟩
  · -- h3F
   have h3b := h3
   try simp only [Bool.not_eq_false', decide_eq_true_eq] at h3
   refine o_yes rfl rfl rfl (o_move rfl rfl (o_yes rfl rfl rfl ?_))
   refine o_bin rfl rfl rfl b_gtr ?_
   refine o_pick_false rfl rfl rfl (o_nil rfl rfl ?_)
   refine o_fieldAddr (q := ⟨q, 1, none⟩) rfl rfl Try.underlying86 rfl ti4 rfl ?_
   refine l_f4 ?_
   refine o_store1 rfl rfl rfl ti4 rfl rfl ?_
   refine l_nil (q_then (c_seq (c_region (o_move rfl rfl ?_))))
   refine o_bin rfl rfl rfl b_eql ?_
   refine o_move rfl rfl (l_f2 (l_f2 (l_f2 ?_)))
   refine o_call rfl cal63 rfl (rdtext_ ok15) ?_
   rintro _ _ ⟨out36, a36, c36, hout36, b36, ys36, ay36, cy36, hb36, ok36, rfl, rfl⟩
   have dr36 : ys36 = ys15.drop (textR ys15).2.2 := EyeOk.next ok15 ok36
   refine o_fieldAddr (q := ⟨b2, 1, none⟩) rfl rfl Try.underlying49 rfl ti36 rfl ?_
   refine o_fieldAddr (q := ⟨b2, 1, none⟩) rfl rfl Try.underlying36 rfl ti4 rfl ?_
   refine l_f4 ?_
   refine o_store1 rfl rfl rfl ti4 rfl rfl ?_
   refine o_fieldAddr (q := ⟨b2, 1, none⟩) rfl rfl Try.underlying49 rfl ti36 rfl ?_
   refine o_fieldAddr (q := ⟨b2, 2, none⟩) rfl rfl Try.underlying36 rfl ti23 rfl ?_
   refine o_store1 rfl rfl rfl ti23 rfl rfl ?_
   refine l_nil (q_then (c_seq (c_region (o_move rfl rfl (l_f4 (l_f4 (l_f4 ?_)))))))
   refine o_call rfl cal47 rfl (rdnum_ ok36) ?_
   rintro _ _ ⟨b42, ys42, ay42, cy42, hb42, ok42, rfl, rfl⟩
   have dr42 : ys42 = ys36.drop (numR 0 0 ys36).2.2 := EyeOk.next ok36 ok42
   refine o_assign rfl rfl (l_nil (q_then (c_seq (c_region (o_move rfl rfl (l_f2 (l_f2 (l_f2 ?_))))))))
   refine o_call rfl cal47 rfl (rdnum_ ok42) ?_
   rintro _ _ ⟨b44, ys44, ay44, cy44, hb44, ok44, rfl, rfl⟩
   have dr44 : ys44 = ys42.drop (numR 0 0 ys42).2.2 := EyeOk.next ok42 ok44
   refine o_fieldAddr (q := ⟨b2, 1, none⟩) rfl rfl Try.underlying49 rfl ti36 rfl ?_
   refine o_fieldAddr (q := ⟨b2, 4, none⟩) rfl rfl Try.underlying36 rfl ti34 rfl ?_
   refine l_f3 ?_
   refine o_store1 rfl rfl rfl ti34 rfl rfl ?_
   refine l_nil (q_then (c_seq (c_region (o_move rfl rfl (o_move rfl rfl (o_nil rfl rfl ?_))))))
   refine o_fieldAddr (q := ⟨q, 1, none⟩) rfl rfl Try.underlying86 rfl ti4 rfl ?_
   refine o_load1 rfl rfl Try.underlying4 rfl (rd_mem 1 rfl rfl) ?_
   refine o_move rfl rfl ?_
   refine l_split (t := 52) rfl (fun h5 => ?_) (fun h5 => ?_)
   · -- h5T
    have h5b := h5
    try simp only [decide_eq_true_eq, decide_eq_false_iff_not, Bool.not_eq_eq_eq_not, Bool.not_true, Bool.not_false, Bool.not_eq_true', Bool.not_eq_false', Int.not_lt, Int.not_le, Bool.or_eq_true, Bool.and_eq_true] at h5
    refine o_no rfl rfl rfl rfl (o_no rfl rfl rfl rfl (o_pick_true rfl rfl rfl (o_nil rfl rfl ?_)))
    refine o_fieldAddr (q := ⟨q, 1, none⟩) rfl rfl Try.underlying86 rfl ti4 rfl ?_
    refine l_f1 ?_
    refine o_store1 rfl rfl rfl ti4 rfl rfl ?_
    refine l_nil (q_then (c_seq (c_region (o_move rfl rfl ?_))))
    refine o_bin rfl rfl rfl (b_rem (by omega) (show Int.tmod ((numR 0 0 ys36).1 : Int) 3 = (((numR 0 0 ys36).1 % 3 : Nat) : Int) from rfl)) ?_
    refine o_int rfl rfl Try.underlying34 Try.underlying3 (wrap_i64 (by omega) (by omega)) ?_
    refine o_fieldAddr (q := ⟨b2, 1, none⟩) rfl rfl Try.underlying49 rfl ti36 rfl ?_
    refine o_fieldAddr (q := ⟨b2, 3, none⟩) rfl rfl Try.underlying36 rfl ti3 rfl ?_
    refine l_f1 ?_
    refine o_store1 rfl rfl rfl ti3 rfl rfl ?_
    refine l_nil (q_then (c_seq ?_))
    have f7 : ys7 = y1 ys := dr7
    have f15 : ys15 = y2 ys := by rw [dr15, f7]; rfl
    have f36 : ys36 = y3 ys := by rw [dr36, f15]; rfl
    have f42 : ys42 = y4 ys := by rw [dr42, f36]; rfl
    have hye : ys44 = y5 ys := by rw [dr44, f42]; rfl
    have e1 : rdHas ys = (byteR ys7).1 := by rw [f7]; rfl
    have e2 : (byteR (y1 ys)).2.1 = (byteR ys7).2.1 := by rw [f7]
    have e3 : rdHome ys = (numR 0 0 ys36).1 := by rw [f36]; rfl
    have hb3 : (decide (1 < ((byteR ys7).1.toNat : Int))) = false ↔ b7 = false ∧ (byteR (y1 ys)).2.1 = 0 ∧ (rdHas ys).toNat ≤ 1 := by rw [e1, e2]; exact has_le (by first | exact .inl ⟨rfl, .inl (by assumption)⟩ | exact .inl ⟨rfl, .inr ⟨by assumption, by first | assumption | (simp_all; done)⟩⟩ | exact .inr ⟨by assumption, by assumption, rfl⟩)
    have hb5 : true = false ↔ b44 = false ∧ rdHome ys < 3 := by rw [e3]; exact home_le (by first | exact .inl ⟨rfl, by assumption⟩ | exact .inr ⟨by assumption, rfl⟩)
    have hbad : true = false ↔ bd = false ∧ RowOk ys := row_bad (b36 := b36) (b42 := b42) (b44 := b44) hb7 hb3 (by rw [← f15]; exact hb36) (by rw [← f36]; exact hb42) (by rw [← f42]; exact hb44) hb5
    have hlt : true = false → i < i + (textR ys).2.2 + (byteR ys7).2.2 + (textR ys15).2.2 + (numR 0 0 ys36).2.2 + (numR 0 0 ys42).2.2 := fun h => by have h9 := textR_pos (hbad.1 h).2.no.e1; omega
    refine c_region ?_
    refine o_loadn (vs := [_, _, _, _, _]) rfl rfl Try.underlying49 rfl ti49 (rdn_lit 0 rfl rfl) ?_
    refine o_storen rfl rfl ti49 rfl rfl rfl rfl ?_
    refine l_nil (q_then (c_ret ?_))
    refine f_retq (.inl rfl) (rs_1 rfl (rs_celln (vs := [.string (bts out7), .bool (decide (((byteR ys7).1.toNat : Int) = 1)), .slice a36 (out36).length c36, .int .i64 (((numR 0 0 ys36).1 % 3 : Nat) : Int), .int .u64 ((numR 0 0 ys42).1 : Int)]) rfl Try.underlying49 rfl ti49 (rdn_lit 0 rfl rfl))) (fun w S => ?_)
    replace S := S.tail
    replace S := (S.perm p4).tail
    replace S := S.perm p2
    replace S := S.perm p2
    replace S := S.perm p2
    replace S := S.perm p3
    exact ⟨_, ⟨(⟨bts out7, ⟨decide (((byteR ys7).1.toNat : Int) = 1), ⟨a36, out36, c36⟩, (((numR 0 0 ys36).1 % 3 : Nat) : Int), ((numR 0 0 ys42).1 : Int)⟩⟩ : ItA), true, _, _, _, _, (by unfold rowP rdKey rdVal rdCnt; rw [e1, e3, ← f15, ← f42, ← u8dec, ← hout7, ← hout36]; try rfl), hbad, (by omega), hlt, hye, ok44, rfl, rfl⟩, (fun w S => S) w S⟩
   · -- h5F
    have h5b := h5
    try simp only [decide_eq_true_eq, decide_eq_false_iff_not, Bool.not_eq_eq_eq_not, Bool.not_true, Bool.not_false, Bool.not_eq_true', Bool.not_eq_false', Int.not_lt, Int.not_le, Bool.or_eq_true, Bool.and_eq_true] at h5
    refine o_yes rfl rfl rfl (o_move rfl rfl (o_yes rfl rfl rfl ?_))
    refine o_bin rfl rfl rfl b_geq ?_
    refine o_pick_false rfl rfl rfl (o_nil rfl rfl ?_)
    refine o_fieldAddr (q := ⟨q, 1, none⟩) rfl rfl Try.underlying86 rfl ti4 rfl ?_
    refine l_f1 ?_
    refine o_store1 rfl rfl rfl ti4 rfl rfl ?_
    refine l_nil (q_then (c_seq (c_region (o_move rfl rfl ?_))))
    refine o_bin rfl rfl rfl (b_rem (by omega) (show Int.tmod ((numR 0 0 ys36).1 : Int) 3 = (((numR 0 0 ys36).1 % 3 : Nat) : Int) from rfl)) ?_
    refine o_int rfl rfl Try.underlying34 Try.underlying3 (wrap_i64 (by omega) (by omega)) ?_
    refine o_fieldAddr (q := ⟨b2, 1, none⟩) rfl rfl Try.underlying49 rfl ti36 rfl ?_
    refine o_fieldAddr (q := ⟨b2, 3, none⟩) rfl rfl Try.underlying36 rfl ti3 rfl ?_
    refine l_f1 ?_
    refine o_store1 rfl rfl rfl ti3 rfl rfl ?_
    refine l_nil (q_then (c_seq ?_))
    have f7 : ys7 = y1 ys := dr7
    have f15 : ys15 = y2 ys := by rw [dr15, f7]; rfl
    have f36 : ys36 = y3 ys := by rw [dr36, f15]; rfl
    have f42 : ys42 = y4 ys := by rw [dr42, f36]; rfl
    have hye : ys44 = y5 ys := by rw [dr44, f42]; rfl
    have e1 : rdHas ys = (byteR ys7).1 := by rw [f7]; rfl
    have e2 : (byteR (y1 ys)).2.1 = (byteR ys7).2.1 := by rw [f7]
    have e3 : rdHome ys = (numR 0 0 ys36).1 := by rw [f36]; rfl
    have hb3 : (decide (1 < ((byteR ys7).1.toNat : Int))) = false ↔ b7 = false ∧ (byteR (y1 ys)).2.1 = 0 ∧ (rdHas ys).toNat ≤ 1 := by rw [e1, e2]; exact has_le (by first | exact .inl ⟨rfl, .inl (by assumption)⟩ | exact .inl ⟨rfl, .inr ⟨by assumption, by first | assumption | (simp_all; done)⟩⟩ | exact .inr ⟨by assumption, by assumption, rfl⟩)
    have hb5 : (decide (3 ≤ ((numR 0 0 ys36).1 : Int))) = false ↔ b44 = false ∧ rdHome ys < 3 := by rw [e3]; exact home_le (by first | exact .inl ⟨rfl, by assumption⟩ | exact .inr ⟨by assumption, rfl⟩)
    have hbad : (decide (3 ≤ ((numR 0 0 ys36).1 : Int))) = false ↔ bd = false ∧ RowOk ys := row_bad (b36 := b36) (b42 := b42) (b44 := b44) hb7 hb3 (by rw [← f15]; exact hb36) (by rw [← f36]; exact hb42) (by rw [← f42]; exact hb44) hb5
    have hlt : (decide (3 ≤ ((numR 0 0 ys36).1 : Int))) = false → i < i + (textR ys).2.2 + (byteR ys7).2.2 + (textR ys15).2.2 + (numR 0 0 ys36).2.2 + (numR 0 0 ys42).2.2 := fun h => by have h9 := textR_pos (hbad.1 h).2.no.e1; omega
    refine c_region ?_
    refine o_loadn (vs := [_, _, _, _, _]) rfl rfl Try.underlying49 rfl ti49 (rdn_lit 0 rfl rfl) ?_
    refine o_storen rfl rfl ti49 rfl rfl rfl rfl ?_
    refine l_nil (q_then (c_ret ?_))
    refine f_retq (.inl rfl) (rs_1 rfl (rs_celln (vs := [.string (bts out7), .bool (decide (((byteR ys7).1.toNat : Int) = 1)), .slice a36 (out36).length c36, .int .i64 (((numR 0 0 ys36).1 % 3 : Nat) : Int), .int .u64 ((numR 0 0 ys42).1 : Int)]) rfl Try.underlying49 rfl ti49 (rdn_lit 0 rfl rfl))) (fun w S => ?_)
    replace S := S.tail
    replace S := (S.perm p4).tail
    replace S := S.perm p2
    replace S := S.perm p2
    replace S := S.perm p2
    replace S := S.perm p3
    exact ⟨_, ⟨(⟨bts out7, ⟨decide (((byteR ys7).1.toNat : Int) = 1), ⟨a36, out36, c36⟩, (((numR 0 0 ys36).1 % 3 : Nat) : Int), ((numR 0 0 ys42).1 : Int)⟩⟩ : ItA), decide (3 ≤ ((numR 0 0 ys36).1 : Int)), _, _, _, _, (by unfold rowP rdKey rdVal rdCnt; rw [e1, e3, ← f15, ← f42, ← u8dec, ← hout7, ← hout36]; try rfl), hbad, (by omega), hlt, hye, ok44, rfl, rfl⟩, (fun w S => S) w S⟩
end
section
set_option linter.unusedVariables false
set_option linter.unusedSimpArgs false
open Go.RowKit Classical
section
variable {P : Program} {N : FN} {l : Fr} {W : World} {B : List Res} {Q : Exit → Act → World → Prop} {ops : Array Oper} {rest : List Oper} {e : Exit}
theorem q_out1 {r0 : Res} (h : WQ Q e N l W (B ++ [r0])) : WQ Q e N l W (r0 :: B) := q_conv (fun w S => S.perm (List.perm_append_comm (l₁ := [r0]) (l₂ := B))) h
theorem q_in1 {r0 : Res} (h : WQ Q e N l W (r0 :: B)) : WQ Q e N l W (B ++ [r0]) := q_conv (fun w S => S.perm (List.perm_append_comm (l₁ := B) (l₂ := [r0]))) h
theorem l_in1 {r0 : Res} (h : WL P ops Q rest N l W (r0 :: B)) : WL P ops Q rest N l W (B ++ [r0]) := l_conv (fun w S => S.perm (List.perm_append_comm (l₁ := B) (l₂ := [r0]))) h
theorem q_out2 {r0 r1 : Res} (h : WQ Q e N l W (B ++ [r0, r1])) : WQ Q e N l W (r0 :: r1 :: B) := q_conv (fun w S => S.perm (List.perm_append_comm (l₁ := [r0, r1]) (l₂ := B))) h
theorem q_in2 {r0 r1 : Res} (h : WQ Q e N l W (r0 :: r1 :: B)) : WQ Q e N l W (B ++ [r0, r1]) := q_conv (fun w S => S.perm (List.perm_append_comm (l₁ := B) (l₂ := [r0, r1]))) h
theorem l_in2 {r0 r1 : Res} (h : WL P ops Q rest N l W (r0 :: r1 :: B)) : WL P ops Q rest N l W (B ++ [r0, r1]) := l_conv (fun w S => S.perm (List.perm_append_comm (l₁ := B) (l₂ := [r0, r1]))) h
theorem q_out3 {r0 r1 r2 : Res} (h : WQ Q e N l W (B ++ [r0, r1, r2])) : WQ Q e N l W (r0 :: r1 :: r2 :: B) := q_conv (fun w S => S.perm (List.perm_append_comm (l₁ := [r0, r1, r2]) (l₂ := B))) h
theorem q_in3 {r0 r1 r2 : Res} (h : WQ Q e N l W (r0 :: r1 :: r2 :: B)) : WQ Q e N l W (B ++ [r0, r1, r2]) := q_conv (fun w S => S.perm (List.perm_append_comm (l₁ := B) (l₂ := [r0, r1, r2]))) h
theorem l_in3 {r0 r1 r2 : Res} (h : WL P ops Q rest N l W (r0 :: r1 :: r2 :: B)) : WL P ops Q rest N l W (B ++ [r0, r1, r2]) := l_conv (fun w S => S.perm (List.perm_append_comm (l₁ := B) (l₂ := [r0, r1, r2]))) h
end
theorem y_le {t : List UInt8} : (y1 t).length ≤ t.length ∧ (y2 t).length ≤ (y1 t).length ∧ (y3 t).length ≤ (y2 t).length ∧ (y4 t).length ≤ (y3 t).length := by
  unfold y4 y3 y2 y1; simp only [List.length_drop]; omega
theorem key_le {t : List UInt8} : (rdKey t).size ≤ t.length := by
  have h := textR_len t
  show (bts (textR t).1).data.size ≤ _
  rw [← Array.length_toList]; simpa [bts] using h
theorem val_le {t : List UInt8} : (rdVal t).length ≤ t.length := by
  have h := textR_len (y2 t)
  have := y_le (t := t)
  unfold rdVal; omega
theorem rowP_ok {t : List UInt8} (hl : t.length ≤ 1000000) : OkR 3 (rowP t).2 := by
  have h1 := val_le (t := t)
  have h2 : rdCnt t < 18446744073709551616 := num_0 _
  exact ⟨by show (rdVal t).length ≤ _; omega, by show (0 : Int) ≤ ((rdHome t % 3 : Nat) : Int); omega, by show ((rdHome t % 3 : Nat) : Int) < 3; omega, by show (0 : Int) ≤ (rdCnt t : Int); omega, by show (rdCnt t : Int) ≤ 18446744073709551615; omega⟩
/-- What the store's Restore looks at besides. -/
def ChkP (n : Int) (x : ItA) : Prop := x.f_value.f_Home < n ∧ (x.f_value.f_Count = 0 → x.f_value.f_Home = dflt x.f_key n) ∧ (x.f_value.f_Has = false → x.f_value.f_Value.xs.length = 0)
structure PRI (n : Int) (bs : List UInt8) (c : Nat) (bd : Bool) (i : Nat) (ye : List UInt8) (s : SS) : Prop where
  hn : s.n = n
  len : s.xs.length ≤ i + 1
  len' : bd = false → s.xs.length ≤ i
  key : ∀ z ∈ s.M, z.1.size ≤ 3000
  srt : Srt Prod.fst strlt s.M
  rows : bd = false → ∀ z ∈ s.M, VRow n z
  there : ∀ M, ValidM n M → bs = snapB n M → bd = false ∧ ∃ j, j ≤ M.length ∧ c = M.length - j ∧ s.M = M.take j ∧ ye = rowsB (M.drop j)
theorem PRI.start {n : Int} {bs y y' : List UInt8} {b1 b2 : Bool} {i : Nat} (hn0 : 1 ≤ n) (hn : n ≤ 3) (hl : bs.length ≤ 3000) (h1 : b1 = (false || !decide (((numR 0 0 bs).2.1 : Int) = 0))) (h2 : b2 = (b1 || !decide (((numR 0 0 y).2.1 : Int) = 0)))
    (e1 : y = bs.drop (numR 0 0 bs).2.2) (e2 : y' = y.drop (numR 0 0 y).2.2) : PRI n bs (numR 0 0 y).1 b2 i y' ⟨n, []⟩ := by
  refine ⟨rfl, Nat.zero_le _, fun _ => Nat.zero_le _, fun z hz => by simp [SS.M] at hz, List.Pairwise.nil, fun _ z hz => by simp [SS.M] at hz, fun M hM hb => ?_⟩
  obtain ⟨a1, a2, a3, a4, a5⟩ := snap_hd hn0 hn (by omega) hb
  rw [← e1] at a3 a4 a5
  refine ⟨?_, 0, Nat.zero_le _, by rw [a4]; rfl, by simp [SS.M], by rw [e2, a5]; rfl⟩
  rw [h2, orn, h1, orn]; exact ⟨⟨rfl, a1⟩, a3⟩
theorem rowP_of {n : Int} {z : ByteArray × RecM} {t : List UInt8} (hn : n ≤ 3) (hz : VRow n z) (h1 : rdKey t = z.1) (h2 : rdHas t = hasB z.2.has) (h3 : rdVal t = z.2.val) (h4 : (rdHome t : Int) = z.2.home) (h5 : (rdCnt t : Int) = z.2.count) : rowP t = z := by
  have h6 := hz.hn
  obtain ⟨zk, zh, zv, zm, zc⟩ := z
  simp only at h1 h2 h3 h4 h5 h6
  unfold rowP
  rw [h1, h3, h5, Nat.mod_eq_of_lt (show rdHome t < 3 by omega), h4, h2]
  cases zh <;> rfl
theorem PRI.on {n : Int} {bs ye y' : List UInt8} {c i i' : Nat} {s s' : SS} {bd b3 b2 : Bool} {x : ItA} (h : PRI n bs c bd i ye s) (hbd : bd = false) (hc : 0 < c) (hn : n ≤ 3) (hle : ye.length ≤ 3000) (hx : proj x = rowP ye) (hb : b3 = false ↔ bd = false ∧ RowOk ye) (hi : i ≤ i') (hlt : b3 = false → i < i') (hy : y' = y5 ye)
    (h2 : b2 = false ↔ b3 = false ∧ ChkP n x) (hsn : s'.n = s.n) (hsM : s'.M = setM x.f_key x.f_value.m s.M) : PRI n bs (c - 1) b2 i' y' s' := by
  subst hbd
  have hx1 : x.f_key = rdKey ye := congrArg Prod.fst hx
  have hx2 : x.f_value.m = (rowP ye).2 := congrArg Prod.snd hx
  have hok := rowP_ok (t := ye) (by omega)
  have hl1 : s'.xs.length ≤ s.xs.length + 1 := by
    have := set_len (k := x.f_key) (r := x.f_value.m) (M := s.M)
    rw [← hsM, M_len, M_len] at this; exact this
  have hl2 := h.len' rfl
  refine ⟨hsn.trans h.hn, by omega, fun h9 => ?_, fun z hz => ?_, by rw [hsM]; exact srt_setM h.srt, fun h9 z hz => ?_, fun M hM hbs => ?_⟩
  · have := hlt (h2.1 h9).1; omega
  · rw [hsM] at hz
    rcases key_setM z hz with h9 | ⟨y, hy9, h9⟩
    · rw [h9, hx1]; exact Nat.le_trans key_le hle
    · rw [← h9]; exact h.key y hy9
  · rw [hsM] at hz
    by_cases hin : z ∈ s.M
    · exact h.rows rfl z hin
    · have hz9 : z = (x.f_key, x.f_value.m) ∧ ¬ (x.f_value.m.has = false ∧ x.f_value.m.count = 0) := by
        unfold setM at hz
        split at hz
        · exact absurd (mem_del.1 hz).1 hin
        · rename_i hne
          rcases mem_ins hz with h8 | h8
          · exact ⟨h8, hne⟩
          · exact absurd h8 hin
      obtain ⟨rfl, hne⟩ := hz9
      obtain ⟨hb3, c1, c2, c3⟩ := h2.1 h9
      refine ⟨?_, c1, ?_, ?_, fun h8 => ⟨List.eq_nil_of_length_eq_zero (c3 h8), fun h7 => hne ⟨h8, h7⟩⟩, c2⟩
      · show 0 ≤ x.f_value.m.home; rw [hx2]; exact hok.h0
      · show 0 ≤ x.f_value.m.count; rw [hx2]; exact hok.c0
      · show x.f_value.m.count ≤ maxU; rw [hx2]; exact hok.cn
  · obtain ⟨_, j, hj, hcj, hMj, hye⟩ := h.there M hM hbs
    obtain ⟨z, hz⟩ : ∃ z, M[j]? = some z := ⟨_, List.getElem?_eq_getElem (show j < M.length by omega)⟩
    obtain ⟨v1, v2, v3, v4⟩ := hM.at hz
    obtain ⟨r1, r2, r3, r4, r5, r6, r7⟩ := row_there hn v1 (by omega) (hye.trans v3)
    have hP := rowP_of hn v1 r2 r3 r4 r5 r6
    have hxz : proj x = z := hx.trans hP
    have hz1 : x.f_key = z.1 := congrArg Prod.fst hxz
    have hz2 : x.f_value.m = z.2 := congrArg Prod.snd hxz
    refine ⟨h2.2 ⟨hb.2 ⟨rfl, r1, ?_, ?_⟩, ?_, fun h8 => ?_, fun h8 => ?_⟩, j + 1, by omega, by omega, by rw [hsM, hMj, hz1, hz2, v2], by rw [hy, r7]⟩
    · rw [r3]; cases z.2.has <;> decide
    · have := v1.hn; omega
    · show x.f_value.m.home < n; rw [hz2]; exact v1.hn
    · show x.f_value.m.home = _; rw [hz2, hz1]; exact v1.df (by rw [← hz2]; exact h8)
    · show x.f_value.m.val.length = 0; rw [hz2, (v1.no (by rw [← hz2]; exact h8)).1]; rfl
theorem PRI.okr {ye : List UInt8} {x : ItA} (hx : proj x = rowP ye) (hle : ye.length ≤ 3000) : OkR 3 x.f_value.m ∧ x.f_key.size ≤ 3000 := by
  have h1 : x.f_value.m = (rowP ye).2 := congrArg Prod.snd hx
  have h2 : x.f_key = rdKey ye := congrArg Prod.fst hx
  exact ⟨by rw [h1]; exact rowP_ok (by omega), by rw [h2]; exact Nat.le_trans key_le hle⟩
/-- No store's bytes: what was read differs. -/
theorem PRI.not {n : Int} {bs ye : List UInt8} {c i : Nat} {bd : Bool} {s : SS} (h : PRI n bs c bd i ye s) (hbd : bd = false) (hN : NotSnap n bs) : ¬ snapB s.n s.M = bs := fun h9 => by
  subst hbd
  exact hN s.M ⟨h.srt, h.rows rfl⟩ (by rw [← h9, h.hn])
theorem PRI.is {n : Int} {bs ye : List UInt8} {c i : Nat} {bd : Bool} {s : SS} {M : Rows} (h : PRI n bs c bd i ye s) (hM : ValidM n M) (hb : bs = snapB n M) (he : c = 0 ∨ bd = true) : bd = false ∧ s.M = M ∧ snapB s.n s.M = bs := by
  obtain ⟨h1, j, h2, h3, h4, _⟩ := h.there M hM hb
  have hj : M.length ≤ j := by
    rcases he with he | he
    · omega
    · rw [h1] at he; cases he
  have h5 : s.M = M := by rw [h4, List.take_of_length_le hj]
  exact ⟨h1, h5, by rw [h5, h.hn, hb]⟩
end
section
set_option linter.unusedVariables false
set_option linter.unusedSimpArgs false
set_option maxRecDepth 10000
open Go.RowKit
theorem rEyeNum {W : World} {F : List Res} {k i : Nat} {xs ys : List UInt8} {a : Option Addr} {c : Nat} (hs : SlR W e8 a xs) (hy : ys = xs.drop i) (hil : i ≤ xs.length) (hsm : xs.length ≤ 70000000000000) (hcc : xs.length ≤ c) : CS Try.prog 50 #[.pointer (some ⟨k, 0, none⟩)] W (blk k (.cells #[.slice a (xs).length c, .int .i64 (i : Int)] 92 (0, 0)) :: F) (fun r L' => r = .tuple #[.int .u64 ((numR 0 0 ys).1 : Int), .int .i64 ((numR 0 0 ys).2.1 : Int)] ∧ L' = blk k (.cells #[.slice a (xs).length c, .int .i64 ((i + (numR 0 0 ys).2.2 : Nat) : Int)] 92 (0, 0)) :: F) := by
 have hyl : ys.length = xs.length - i := by rw [hy, List.length_drop]
 refine f_door (l0 := [(0, .pointer (some ⟨k, 0, none⟩))]) Try.func50 Try.ntmps50 rfl rfl rfl ?_
 refine c_seq (c_region (o_assign rfl rfl (o_assign rfl rfl (l_nil (q_then (c_seq (c_region (o_assign rfl rfl (o_assign rfl rfl ?_)))))))))
 refine l_nil (q_then (c_seq (c_seq (c_region (o_assign rfl rfl (l_nil (q_then (c_block ?_))))))))
 refine c_loop (α := Nat × Nat) (fun z => [(0, .pointer (some ⟨k, 0, none⟩)), (4, .int .u64 (z.2 : Int)), (5, .int .u64 ((128 ^ z.1 : Nat) : Int)), (6, .int .i64 (z.1 : Int))]) (fun z => blk k (.cells #[.slice a (xs).length c, .int .i64 (i : Int)] 92 (0, 0)) :: F) (fun z => numR 0 0 ys = numR z.1 z.2 (xs.drop (i + z.1)) ∧ z.1 ≤ 9 ∧ z.2 < 128 ^ z.1 ∧ i + z.1 ≤ xs.length) (fun z => xs.length - (i + z.1)) (0, 0) (by exact ⟨by rw [hy]; rfl, by omega, by decide, by omega⟩) ⟨vr, vr, (by rfl), vr, trivial⟩ (fun w S => S) ?_
 rintro ⟨j, n⟩ ⟨hq, hj9, hn, hjl⟩
 try dsimp only at *
 refine c_seq (c_seq ?_)
 refine c_quiet (by kernel_rfl) (by kernel_rfl) ?_
 refine Qt.o_val rfl (v_move rfl rfl) (Qt.o_val rfl (v_nil rfl rfl) ?_)
 refine Qt.o_val rfl (v_fieldAddr (q := ⟨k, 1, none⟩) rfl rfl Try.underlying92 rfl ti3 rfl) ?_
 refine Qt.o_val rfl (v_load1 rfl rfl Try.underlying3 rfl (rd_mem 0 rfl rfl)) ?_
 refine Qt.o_val rfl (v_move rfl rfl) ?_
 refine Qt.o_val rfl (v_bin rfl rfl rfl (b_add (wrap_i64 (by omega) (by omega)))) ?_
 refine Qt.o_val rfl (v_move rfl rfl) (Qt.o_val rfl (v_nil rfl rfl) ?_)
 refine Qt.o_val rfl (v_fieldAddr (q := ⟨k, 0, none⟩) rfl rfl Try.underlying92 rfl ti23 rfl) ?_
 refine Qt.o_val rfl (v_load1 rfl rfl Try.underlying23 rfl (rd_mem 0 rfl rfl)) ?_
 refine Qt.o_val rfl (v_len rfl rfl Try.underlying23) ?_
 refine Qt.o_val rfl (v_bin rfl rfl rfl b_lss) ?_
 refine Qt.l_nil ?_
 refine q_then ?_
 refine c_cond rfl (fun h1 => ?_) (fun h1 => ?_)
 · -- h1T
  try simp only [decide_eq_true_eq, decide_eq_false_iff_not, Bool.not_eq_eq_eq_not, Bool.not_true, Bool.not_false, Bool.not_eq_true', Bool.not_eq_false', Int.not_lt, Int.not_le, Bool.or_eq_true, Bool.and_eq_true] at h1
  refine c_skip (q_then (c_seq (c_block (c_seq ?_))))
  refine c_fact (p := ∃ ad, a = some ad) (rds_some (e := e8) (xs := xs) (rds_old hs) (by intro h0; rw [h0] at h1; simp at h1; omega)) ?_
  rintro ⟨adB, eadB⟩
  refine c_quiet (by kernel_rfl) (by kernel_rfl) ?_
  refine Qt.o_val rfl (v_move rfl rfl) (Qt.o_val rfl (v_nil rfl rfl) ?_)
  refine Qt.o_val rfl (v_fieldAddr (q := ⟨k, 0, none⟩) rfl rfl Try.underlying92 rfl ti23 rfl) ?_
  refine Qt.o_val rfl (v_load1 rfl rfl Try.underlying23 rfl (rd_mem 0 rfl rfl)) ?_
  refine Qt.o_val rfl (v_move rfl rfl) (Qt.o_val rfl (v_nil rfl rfl) ?_)
  refine Qt.o_val rfl (v_fieldAddr (q := ⟨k, 1, none⟩) rfl rfl Try.underlying92 rfl ti3 rfl) ?_
  refine Qt.o_val rfl (v_load1 rfl rfl Try.underlying3 rfl (rd_mem 0 rfl rfl)) ?_
  refine Qt.o_val rfl (v_move rfl rfl) ?_
  refine Qt.o_val rfl (v_bin rfl rfl rfl (b_add (wrap_i64 (by omega) (by omega)))) ?_
  refine Qt.o_val rfl (v_indexK e8_ok eadB rfl rfl rfl Try.underlying23 (by omega) (by omega)) ?_
  obtain ⟨x32, hx32⟩ : ∃ x, (xs)[(((i : Int) + (j : Int))).toNat]? = some x := ⟨_, List.getElem?_eq_getElem (by omega)⟩
  have hx32' : xs[i + j]? = some x32 := by rw [← hx32]; congr 1
  rw [drop_get hx32'] at hq
  have hxl := x32.toNat_lt
  refine Qt.o_val rfl (v_load1 rfl rfl Try.underlying5 rfl (rd_sl0 e8_ok eadB (rds_old hs) hx32 rfl)) ?_
  refine Qt.o_val rfl (v_int rfl rfl Try.underlying5 Try.underlying34 (cu64 _)) ?_
  refine Qt.o_val rfl (v_assign rfl rfl) ?_
  refine Qt.l_nil ?_
  refine q_then (c_seq (c_seq (c_region (o_move rfl rfl ?_))))
  refine o_bin rfl rfl rfl b_eql ?_
  refine o_move rfl rfl ?_
  refine l_split (t := 37) rfl (fun h2 => ?_) (fun h2 => ?_)
  · -- h2T
   try simp only [decide_eq_true_eq, decide_eq_false_iff_not, Bool.not_eq_eq_eq_not, Bool.not_true, Bool.not_false, Bool.not_eq_true', Bool.not_eq_false', Int.not_lt, Int.not_le, Bool.or_eq_true, Bool.and_eq_true] at h2
   refine o_yes rfl rfl rfl (o_move rfl rfl (o_yes rfl rfl rfl ?_))
   refine o_bin rfl rfl rfl b_gtr ?_
   refine o_pick_true rfl rfl rfl (l_nil (q_then ?_))
   refine c_cond rfl (fun h3 => ?_) (fun h3 => ?_)
   · -- h3T
    try simp only [decide_eq_true_eq, decide_eq_false_iff_not, Bool.not_eq_eq_eq_not, Bool.not_true, Bool.not_false, Bool.not_eq_true', Bool.not_eq_false', Int.not_lt, Int.not_le, Bool.or_eq_true, Bool.and_eq_true] at h3
    refine c_seq ?_
    have hres : numR 0 0 ys = (0, 31, 0) := by rw [hq]; exact numR_bad (by omega) (by omega)
    refine c_region (o_assign rfl rfl (o_assign rfl rfl (l_nil (q_then (c_ret (q_pass_ret ?_))))))
    refine q_block_ret ?_
    refine q_pass_ret (q_pass_ret ?_)
    refine q_block_ret ?_
    refine q_pass_ret ?_
    exact f_ret (r_two rfl rfl rfl) (⟨by rw [hres]; rfl, by (rw [hres]; first | done | rfl)⟩) (fun w S => S)
   · -- h3F
    try simp only [decide_eq_true_eq, decide_eq_false_iff_not, Bool.not_eq_eq_eq_not, Bool.not_true, Bool.not_false, Bool.not_eq_true', Bool.not_eq_false', Int.not_lt, Int.not_le, Bool.or_eq_true, Bool.and_eq_true] at h3
    refine c_skip (q_then (c_seq (c_region ?_)))
    have hnb : ¬ (j = 9 ∧ 1 < x32.toNat) := by omega
    refine o_move rfl rfl (o_move rfl rfl ?_)
    refine o_bin rfl rfl rfl (b_rem (by omega) (tmod128b x32)) ?_
    refine o_move rfl rfl ?_
    refine o_bin rfl rfl rfl (b_mul (mul7 hj9 hnb)) ?_
    refine o_bin rfl rfl rfl (b_add (add7 hj9 hn hnb)) ?_
    refine o_assign rfl rfl (l_nil (q_then (c_seq (c_region (o_move rfl rfl ?_)))))
    refine o_bin rfl rfl rfl (b_mul rfl) ?_
    refine o_assign rfl rfl (l_nil (q_then (c_seq (c_region (o_move rfl rfl ?_)))))
    refine o_bin rfl rfl rfl b_lss ?_
    refine l_nil (q_then ?_)
    refine c_cond rfl (fun h4 => ?_) (fun h4 => ?_)
    · -- h4T
     try simp only [decide_eq_true_eq, decide_eq_false_iff_not, Bool.not_eq_eq_eq_not, Bool.not_true, Bool.not_false, Bool.not_eq_true', Bool.not_eq_false', Int.not_lt, Int.not_le, Bool.or_eq_true, Bool.and_eq_true] at h4
     refine c_seq (c_seq (c_region (o_move rfl rfl ?_)))
     refine o_bin rfl rfl rfl b_eql ?_
     refine o_move rfl rfl ?_
     refine l_split (t := 53) rfl (fun h5 => ?_) (fun h5 => ?_)
     · -- h5T
      try simp only [decide_eq_true_eq, decide_eq_false_iff_not, Bool.not_eq_eq_eq_not, Bool.not_true, Bool.not_false, Bool.not_eq_true', Bool.not_eq_false', Int.not_lt, Int.not_le, Bool.or_eq_true, Bool.and_eq_true] at h5
      refine o_yes rfl rfl rfl (o_move rfl rfl (o_yes rfl rfl rfl ?_))
      refine o_bin rfl rfl rfl b_gtr ?_
      refine o_pick_true rfl rfl rfl (l_nil (q_then ?_))
      refine c_cond rfl (fun h6 => ?_) (fun h6 => ?_)
      · -- h6T
       try simp only [decide_eq_true_eq, decide_eq_false_iff_not, Bool.not_eq_eq_eq_not, Bool.not_true, Bool.not_false, Bool.not_eq_true', Bool.not_eq_false', Int.not_lt, Int.not_le, Bool.or_eq_true, Bool.and_eq_true] at h6
       refine c_seq ?_
       have hres : numR 0 0 ys = (0, 31, 0) := by rw [hq]; exact numR_zero (by omega) (by omega) (by omega)
       refine c_region (o_assign rfl rfl (o_assign rfl rfl (l_nil (q_then (c_ret (q_pass_ret ?_))))))
       refine q_block_ret ?_
       refine q_pass_ret (q_pass_ret ?_)
       refine q_block_ret ?_
       refine q_pass_ret ?_
       exact f_ret (r_two rfl rfl rfl) (⟨by rw [hres]; rfl, by (rw [hres]; first | done | rfl)⟩) (fun w S => S)
      · -- h6F
       try simp only [decide_eq_true_eq, decide_eq_false_iff_not, Bool.not_eq_eq_eq_not, Bool.not_true, Bool.not_false, Bool.not_eq_true', Bool.not_eq_false', Int.not_lt, Int.not_le, Bool.or_eq_true, Bool.and_eq_true] at h6
       refine c_skip (q_then (c_seq ?_))
       have hres : numR 0 0 ys = (n + x32.toNat % 128 * 128 ^ j, 0, j + 1) := by rw [hq]; exact numR_end hnb (by omega) (by omega)
       have hadd : ((i : Int) + ((j : Int) + 1)) = ((i + (j + 1) : Nat) : Int) := by omega
       refine c_region (o_move rfl rfl (o_nil rfl rfl ?_))
       refine o_fieldAddr (q := ⟨k, 1, none⟩) rfl rfl Try.underlying92 rfl ti3 rfl ?_
       refine o_load1 rfl rfl Try.underlying3 rfl (rd_mem 0 rfl rfl) ?_
       refine o_move rfl rfl ?_
       refine o_bin rfl rfl rfl (b_add (wrap_i64 (by omega) (by omega))) ?_
       refine o_bin rfl rfl rfl (b_add (wrap_i64 (by omega) (by omega))) ?_
       refine o_nil rfl rfl ?_
       refine o_fieldAddr (q := ⟨k, 1, none⟩) rfl rfl Try.underlying92 rfl ti3 rfl ?_
       refine o_store1 rfl rfl rfl ti3 rfl rfl ?_
       refine l_nil (q_then (c_seq (c_region (o_move rfl rfl (o_assign rfl rfl (o_assign rfl rfl (l_nil (q_then (c_ret ?_)))))))))
       refine q_block_ret ?_
       refine q_pass_ret (q_pass_ret ?_)
       refine q_block_ret ?_
       refine q_pass_ret ?_
       exact f_ret (r_two rfl rfl rfl) (⟨by rw [hres]; rfl, by (rw [hres]; first | done | rfl)⟩) (fun w S => by rw [hadd] at S; exact S)
     · -- h5F
      try simp only [decide_eq_true_eq, decide_eq_false_iff_not, Bool.not_eq_eq_eq_not, Bool.not_true, Bool.not_false, Bool.not_eq_true', Bool.not_eq_false', Int.not_lt, Int.not_le, Bool.or_eq_true, Bool.and_eq_true] at h5
      refine o_no rfl rfl rfl rfl (o_no rfl rfl rfl rfl (o_pick_false rfl rfl rfl (l_nil (q_then (c_false rfl (c_skip (q_then (c_seq ?_))))))))
      have hres : numR 0 0 ys = (n + x32.toNat % 128 * 128 ^ j, 0, j + 1) := by rw [hq]; exact numR_end hnb (by omega) (by omega)
      have hadd : ((i : Int) + ((j : Int) + 1)) = ((i + (j + 1) : Nat) : Int) := by omega
      refine c_region (o_move rfl rfl (o_nil rfl rfl ?_))
      refine o_fieldAddr (q := ⟨k, 1, none⟩) rfl rfl Try.underlying92 rfl ti3 rfl ?_
      refine o_load1 rfl rfl Try.underlying3 rfl (rd_mem 0 rfl rfl) ?_
      refine o_move rfl rfl ?_
      refine o_bin rfl rfl rfl (b_add (wrap_i64 (by omega) (by omega))) ?_
      refine o_bin rfl rfl rfl (b_add (wrap_i64 (by omega) (by omega))) ?_
      refine o_nil rfl rfl ?_
      refine o_fieldAddr (q := ⟨k, 1, none⟩) rfl rfl Try.underlying92 rfl ti3 rfl ?_
      refine o_store1 rfl rfl rfl ti3 rfl rfl ?_
      refine l_nil (q_then (c_seq (c_region (o_move rfl rfl (o_assign rfl rfl (o_assign rfl rfl (l_nil (q_then (c_ret ?_)))))))))
      refine q_block_ret ?_
      refine q_pass_ret (q_pass_ret ?_)
      refine q_block_ret ?_
      refine q_pass_ret ?_
      exact f_ret (r_two rfl rfl rfl) (⟨by rw [hres]; rfl, by (rw [hres]; first | done | rfl)⟩) (fun w S => by rw [hadd] at S; exact S)
    · -- h4F
     try simp only [decide_eq_true_eq, decide_eq_false_iff_not, Bool.not_eq_eq_eq_not, Bool.not_true, Bool.not_false, Bool.not_eq_true', Bool.not_eq_false', Int.not_lt, Int.not_le, Bool.or_eq_true, Bool.and_eq_true] at h4
     refine c_skip (q_block (q_then (c_region (o_move rfl rfl ?_))))
     refine o_bin rfl rfl rfl (b_add (wrap_i64 (by omega) (by omega))) ?_
     refine o_assign rfl rfl (l_nil ?_)
     exact q_round (j + 1, n + x32.toNat % 128 * 128 ^ j) (by exact ⟨by rw [hq, numR_on hnb (by omega)]; rfl, by omega, numR_next hn, by omega⟩) (by (try dsimp only); omega) ⟨vr, vr, (vint (weight7 (by omega))), vr, trivial⟩ (fun w S => S)
  · -- h2F
   try simp only [decide_eq_true_eq, decide_eq_false_iff_not, Bool.not_eq_eq_eq_not, Bool.not_true, Bool.not_false, Bool.not_eq_true', Bool.not_eq_false', Int.not_lt, Int.not_le, Bool.or_eq_true, Bool.and_eq_true] at h2
   refine o_no rfl rfl rfl rfl (o_no rfl rfl rfl rfl (o_pick_false rfl rfl rfl (l_nil (q_then (c_false rfl (c_skip (q_then (c_seq (c_region ?_)))))))))
   have hnb : ¬ (j = 9 ∧ 1 < x32.toNat) := by omega
   refine o_move rfl rfl (o_move rfl rfl ?_)
   refine o_bin rfl rfl rfl (b_rem (by omega) (tmod128b x32)) ?_
   refine o_move rfl rfl ?_
   refine o_bin rfl rfl rfl (b_mul (mul7 hj9 hnb)) ?_
   refine o_bin rfl rfl rfl (b_add (add7 hj9 hn hnb)) ?_
   refine o_assign rfl rfl (l_nil (q_then (c_seq (c_region (o_move rfl rfl ?_)))))
   refine o_bin rfl rfl rfl (b_mul rfl) ?_
   refine o_assign rfl rfl (l_nil (q_then (c_seq (c_region (o_move rfl rfl ?_)))))
   refine o_bin rfl rfl rfl b_lss ?_
   refine l_nil (q_then ?_)
   refine c_cond rfl (fun h7 => ?_) (fun h7 => ?_)
   · -- h7T
    try simp only [decide_eq_true_eq, decide_eq_false_iff_not, Bool.not_eq_eq_eq_not, Bool.not_true, Bool.not_false, Bool.not_eq_true', Bool.not_eq_false', Int.not_lt, Int.not_le, Bool.or_eq_true, Bool.and_eq_true] at h7
    refine c_seq (c_seq (c_region (o_move rfl rfl ?_)))
    refine o_bin rfl rfl rfl b_eql ?_
    refine o_move rfl rfl ?_
    refine l_split (t := 53) rfl (fun h8 => ?_) (fun h8 => ?_)
    · -- h8T
     try simp only [decide_eq_true_eq, decide_eq_false_iff_not, Bool.not_eq_eq_eq_not, Bool.not_true, Bool.not_false, Bool.not_eq_true', Bool.not_eq_false', Int.not_lt, Int.not_le, Bool.or_eq_true, Bool.and_eq_true] at h8
     refine o_yes rfl rfl rfl (o_move rfl rfl (o_yes rfl rfl rfl ?_))
     refine o_bin rfl rfl rfl b_gtr ?_
     refine o_pick_true rfl rfl rfl (l_nil (q_then ?_))
     refine c_cond rfl (fun h9 => ?_) (fun h9 => ?_)
     · -- h9T
      try simp only [decide_eq_true_eq, decide_eq_false_iff_not, Bool.not_eq_eq_eq_not, Bool.not_true, Bool.not_false, Bool.not_eq_true', Bool.not_eq_false', Int.not_lt, Int.not_le, Bool.or_eq_true, Bool.and_eq_true] at h9
      refine c_seq ?_
      have hres : numR 0 0 ys = (0, 31, 0) := by rw [hq]; exact numR_zero (by omega) (by omega) (by omega)
      refine c_region (o_assign rfl rfl (o_assign rfl rfl (l_nil (q_then (c_ret (q_pass_ret ?_))))))
      refine q_block_ret ?_
      refine q_pass_ret (q_pass_ret ?_)
      refine q_block_ret ?_
      refine q_pass_ret ?_
      exact f_ret (r_two rfl rfl rfl) (⟨by rw [hres]; rfl, by (rw [hres]; first | done | rfl)⟩) (fun w S => S)
     · -- h9F
      try simp only [decide_eq_true_eq, decide_eq_false_iff_not, Bool.not_eq_eq_eq_not, Bool.not_true, Bool.not_false, Bool.not_eq_true', Bool.not_eq_false', Int.not_lt, Int.not_le, Bool.or_eq_true, Bool.and_eq_true] at h9
      refine c_skip (q_then (c_seq ?_))
      have hres : numR 0 0 ys = (n + x32.toNat % 128 * 128 ^ j, 0, j + 1) := by rw [hq]; exact numR_end hnb (by omega) (by omega)
      have hadd : ((i : Int) + ((j : Int) + 1)) = ((i + (j + 1) : Nat) : Int) := by omega
      refine c_region (o_move rfl rfl (o_nil rfl rfl ?_))
      refine o_fieldAddr (q := ⟨k, 1, none⟩) rfl rfl Try.underlying92 rfl ti3 rfl ?_
      refine o_load1 rfl rfl Try.underlying3 rfl (rd_mem 0 rfl rfl) ?_
      refine o_move rfl rfl ?_
      refine o_bin rfl rfl rfl (b_add (wrap_i64 (by omega) (by omega))) ?_
      refine o_bin rfl rfl rfl (b_add (wrap_i64 (by omega) (by omega))) ?_
      refine o_nil rfl rfl ?_
      refine o_fieldAddr (q := ⟨k, 1, none⟩) rfl rfl Try.underlying92 rfl ti3 rfl ?_
      refine o_store1 rfl rfl rfl ti3 rfl rfl ?_
      refine l_nil (q_then (c_seq (c_region (o_move rfl rfl (o_assign rfl rfl (o_assign rfl rfl (l_nil (q_then (c_ret ?_)))))))))
      refine q_block_ret ?_
      refine q_pass_ret (q_pass_ret ?_)
      refine q_block_ret ?_
      refine q_pass_ret ?_
      exact f_ret (r_two rfl rfl rfl) (⟨by rw [hres]; rfl, by (rw [hres]; first | done | rfl)⟩) (fun w S => by rw [hadd] at S; exact S)
    · -- h8F
     try simp only [decide_eq_true_eq, decide_eq_false_iff_not, Bool.not_eq_eq_eq_not, Bool.not_true, Bool.not_false, Bool.not_eq_true', Bool.not_eq_false', Int.not_lt, Int.not_le, Bool.or_eq_true, Bool.and_eq_true] at h8
     refine o_no rfl rfl rfl rfl (o_no rfl rfl rfl rfl (o_pick_false rfl rfl rfl (l_nil (q_then (c_false rfl (c_skip (q_then (c_seq ?_))))))))
     have hres : numR 0 0 ys = (n + x32.toNat % 128 * 128 ^ j, 0, j + 1) := by rw [hq]; exact numR_end hnb (by omega) (by omega)
     have hadd : ((i : Int) + ((j : Int) + 1)) = ((i + (j + 1) : Nat) : Int) := by omega
     refine c_region (o_move rfl rfl (o_nil rfl rfl ?_))
     refine o_fieldAddr (q := ⟨k, 1, none⟩) rfl rfl Try.underlying92 rfl ti3 rfl ?_
     refine o_load1 rfl rfl Try.underlying3 rfl (rd_mem 0 rfl rfl) ?_
     refine o_move rfl rfl ?_
     refine o_bin rfl rfl rfl (b_add (wrap_i64 (by omega) (by omega))) ?_
     refine o_bin rfl rfl rfl (b_add (wrap_i64 (by omega) (by omega))) ?_
     refine o_nil rfl rfl ?_
     refine o_fieldAddr (q := ⟨k, 1, none⟩) rfl rfl Try.underlying92 rfl ti3 rfl ?_
     refine o_store1 rfl rfl rfl ti3 rfl rfl ?_
     refine l_nil (q_then (c_seq (c_region (o_move rfl rfl (o_assign rfl rfl (o_assign rfl rfl (l_nil (q_then (c_ret ?_)))))))))
     refine q_block_ret ?_
     refine q_pass_ret (q_pass_ret ?_)
     refine q_block_ret ?_
     refine q_pass_ret ?_
     exact f_ret (r_two rfl rfl rfl) (⟨by rw [hres]; rfl, by (rw [hres]; first | done | rfl)⟩) (fun w S => by rw [hadd] at S; exact S)
   · -- h7F
    try simp only [decide_eq_true_eq, decide_eq_false_iff_not, Bool.not_eq_eq_eq_not, Bool.not_true, Bool.not_false, Bool.not_eq_true', Bool.not_eq_false', Int.not_lt, Int.not_le, Bool.or_eq_true, Bool.and_eq_true] at h7
    refine c_skip (q_block (q_then (c_region (o_move rfl rfl ?_))))
    refine o_bin rfl rfl rfl (b_add (wrap_i64 (by omega) (by omega))) ?_
    refine o_assign rfl rfl (l_nil ?_)
    exact q_round (j + 1, n + x32.toNat % 128 * 128 ^ j) (by exact ⟨by rw [hq, numR_on hnb (by omega)]; rfl, by omega, numR_next hn, by omega⟩) (by (try dsimp only); omega) ⟨vr, vr, (vint (weight7 (by omega))), vr, trivial⟩ (fun w S => S)
 · -- h1F
  try simp only [decide_eq_true_eq, decide_eq_false_iff_not, Bool.not_eq_eq_eq_not, Bool.not_true, Bool.not_false, Bool.not_eq_true', Bool.not_eq_false', Int.not_lt, Int.not_le, Bool.or_eq_true, Bool.and_eq_true] at h1
  refine c_exit (q_pass_exit (q_pass_exit (q_hit (q_then (c_seq (c_region (o_assign rfl rfl (o_assign rfl rfl (l_nil ?_)))))))))
  refine q_then (c_ret ?_)
  exact f_ret (r_two rfl rfl rfl) (⟨by rw [hq, List.drop_of_length_le (by omega), numR]; rfl, by rw [hq, List.drop_of_length_le (by omega), numR]; rfl⟩) (fun w S => S)
theorem rEyeEnd {W : World} {F : List Res} {k i : Nat} {xs ys : List UInt8} {a : Option Addr} {c : Nat} (hs : SlR W e8 a xs) (hy : ys = xs.drop i) (hil : i ≤ xs.length) (hsm : xs.length ≤ 70000000000000) (hcc : xs.length ≤ c) : CS Try.prog 53 #[.pointer (some ⟨k, 0, none⟩)] W (blk k (.cells #[.slice a (xs).length c, .int .i64 (i : Int)] 92 (0, 0)) :: F) (fun r L' => r = .int .i64 (endR ys : Int) ∧ L' = blk k (.cells #[.slice a (xs).length c, .int .i64 (i : Int)] 92 (0, 0)) :: F) := by
 have hyl : ys.length = xs.length - i := by rw [hy, List.length_drop]
 refine f_door (l0 := [(0, .pointer (some ⟨k, 0, none⟩))]) Try.func53 Try.ntmps53 rfl rfl rfl ?_
 refine c_seq (c_region (o_assign rfl rfl (l_nil (q_then (c_seq (c_seq ?_))))))
 refine c_quiet (by kernel_rfl) (by kernel_rfl) ?_
 refine Qt.o_val rfl (v_move rfl rfl) (Qt.o_val rfl (v_nil rfl rfl) ?_)
 refine Qt.o_val rfl (v_fieldAddr (q := ⟨k, 1, none⟩) rfl rfl Try.underlying92 rfl ti3 rfl) ?_
 refine Qt.o_val rfl (v_load1 rfl rfl Try.underlying3 rfl (rd_mem 0 rfl rfl)) ?_
 refine Qt.o_val rfl (v_move rfl rfl) (Qt.o_val rfl (v_nil rfl rfl) ?_)
 refine Qt.o_val rfl (v_fieldAddr (q := ⟨k, 0, none⟩) rfl rfl Try.underlying92 rfl ti23 rfl) ?_
 refine Qt.o_val rfl (v_load1 rfl rfl Try.underlying23 rfl (rd_mem 0 rfl rfl)) ?_
 refine Qt.o_val rfl (v_len rfl rfl Try.underlying23) ?_
 refine Qt.o_val rfl (v_bin rfl rfl rfl b_lss) ?_
 refine Qt.l_nil ?_
 refine q_then ?_
 refine c_cond rfl (fun h1 => ?_) (fun h1 => ?_)
 · -- h1T
  try simp only [decide_eq_true_eq, decide_eq_false_iff_not, Bool.not_eq_eq_eq_not, Bool.not_true, Bool.not_false, Bool.not_eq_true', Bool.not_eq_false', Int.not_lt, Int.not_le, Bool.or_eq_true, Bool.and_eq_true] at h1
  refine c_seq (c_region (o_assign rfl rfl (l_nil (q_then (c_ret (q_pass_ret ?_))))))
  exact f_ret (r_one rfl rfl) (⟨by rw [endR, if_pos (by omega)]; rfl, rfl⟩) (fun w S => S)
 · -- h1F
  try simp only [decide_eq_true_eq, decide_eq_false_iff_not, Bool.not_eq_eq_eq_not, Bool.not_true, Bool.not_false, Bool.not_eq_true', Bool.not_eq_false', Int.not_lt, Int.not_le, Bool.or_eq_true, Bool.and_eq_true] at h1
  refine c_skip (q_then (c_seq (c_region (o_assign rfl rfl (l_nil (q_then (c_ret ?_)))))))
  exact f_ret (r_one rfl rfl) (⟨by rw [endR, if_neg (by omega)]; rfl, rfl⟩) (fun w S => S)
theorem rEyeByte {W : World} {F : List Res} {k i : Nat} {xs ys : List UInt8} {a : Option Addr} {c : Nat} (hs : SlR W e8 a xs) (hy : ys = xs.drop i) (hil : i ≤ xs.length) (hsm : xs.length ≤ 70000000000000) (hcc : xs.length ≤ c) : CS Try.prog 52 #[.pointer (some ⟨k, 0, none⟩)] W (blk k (.cells #[.slice a (xs).length c, .int .i64 (i : Int)] 92 (0, 0)) :: F) (fun r L' => r = .tuple #[.int .u8 ((byteR ys).1.toNat : Int), .int .i64 ((byteR ys).2.1 : Int)] ∧ L' = blk k (.cells #[.slice a (xs).length c, .int .i64 ((i + (byteR ys).2.2 : Nat) : Int)] 92 (0, 0)) :: F) := by
 have hyl : ys.length = xs.length - i := by rw [hy, List.length_drop]
 refine f_door (l0 := [(0, .pointer (some ⟨k, 0, none⟩))]) Try.func52 Try.ntmps52 rfl rfl rfl ?_
 refine c_seq (c_region (o_assign rfl rfl (o_assign rfl rfl (l_nil (q_then (c_seq (c_seq ?_)))))))
 refine c_quiet (by kernel_rfl) (by kernel_rfl) ?_
 refine Qt.o_val rfl (v_move rfl rfl) (Qt.o_val rfl (v_nil rfl rfl) ?_)
 refine Qt.o_val rfl (v_fieldAddr (q := ⟨k, 1, none⟩) rfl rfl Try.underlying92 rfl ti3 rfl) ?_
 refine Qt.o_val rfl (v_load1 rfl rfl Try.underlying3 rfl (rd_mem 0 rfl rfl)) ?_
 refine Qt.o_val rfl (v_move rfl rfl) (Qt.o_val rfl (v_nil rfl rfl) ?_)
 refine Qt.o_val rfl (v_fieldAddr (q := ⟨k, 0, none⟩) rfl rfl Try.underlying92 rfl ti23 rfl) ?_
 refine Qt.o_val rfl (v_load1 rfl rfl Try.underlying23 rfl (rd_mem 0 rfl rfl)) ?_
 refine Qt.o_val rfl (v_len rfl rfl Try.underlying23) ?_
 refine Qt.o_val rfl (v_bin rfl rfl rfl b_geq) ?_
 refine Qt.l_nil ?_
 refine q_then ?_
 refine c_cond rfl (fun h1 => ?_) (fun h1 => ?_)
 · -- h1T
  try simp only [decide_eq_true_eq, decide_eq_false_iff_not, Bool.not_eq_eq_eq_not, Bool.not_true, Bool.not_false, Bool.not_eq_true', Bool.not_eq_false', Int.not_lt, Int.not_le, Bool.or_eq_true, Bool.and_eq_true] at h1
  refine c_seq (c_region (o_assign rfl rfl (o_assign rfl rfl (l_nil (q_then (c_ret (q_pass_ret ?_)))))))
  exact f_ret (r_two rfl rfl rfl) (⟨by rw [byteR_nil (by omega)]; rfl, by rw [byteR_nil (by omega)]; rfl⟩) (fun w S => S)
 · -- h1F
  try simp only [decide_eq_true_eq, decide_eq_false_iff_not, Bool.not_eq_eq_eq_not, Bool.not_true, Bool.not_false, Bool.not_eq_true', Bool.not_eq_false', Int.not_lt, Int.not_le, Bool.or_eq_true, Bool.and_eq_true] at h1
  refine c_skip (q_then (c_seq (c_region (o_move rfl rfl (o_nil rfl rfl ?_)))))
  refine o_fieldAddr (q := ⟨k, 1, none⟩) rfl rfl Try.underlying92 rfl ti3 rfl ?_
  refine o_load1 rfl rfl Try.underlying3 rfl (rd_mem 0 rfl rfl) ?_
  refine o_bin rfl rfl rfl (b_add (wrap_i64 (by omega) (by omega))) ?_
  refine o_nil rfl rfl ?_
  refine o_fieldAddr (q := ⟨k, 1, none⟩) rfl rfl Try.underlying92 rfl ti3 rfl ?_
  refine o_store1 rfl rfl rfl ti3 rfl rfl ?_
  refine l_nil (q_then (c_seq ?_))
  refine c_fact (p := ∃ ad, a = some ad) (rds_some (e := e8) (xs := xs) (rds_old hs) (by intro h0; rw [h0] at h1; simp at h1; omega)) ?_
  rintro ⟨adB, eadB⟩
  refine c_quiet (by kernel_rfl) (by kernel_rfl) ?_
  refine Qt.o_val rfl (v_move rfl rfl) (Qt.o_val rfl (v_nil rfl rfl) ?_)
  refine Qt.o_val rfl (v_fieldAddr (q := ⟨k, 0, none⟩) rfl rfl Try.underlying92 rfl ti23 rfl) ?_
  refine Qt.o_val rfl (v_load1 rfl rfl Try.underlying23 rfl (rd_mem 0 rfl rfl)) ?_
  refine Qt.o_val rfl (v_move rfl rfl) (Qt.o_val rfl (v_nil rfl rfl) ?_)
  refine Qt.o_val rfl (v_fieldAddr (q := ⟨k, 1, none⟩) rfl rfl Try.underlying92 rfl ti3 rfl) ?_
  refine Qt.o_val rfl (v_load1 rfl rfl Try.underlying3 rfl (rd_mem 0 rfl rfl)) ?_
  refine Qt.o_val rfl (v_bin rfl rfl rfl (b_sub (wrap_i64 (by omega) (by omega)))) ?_
  refine Qt.o_val rfl (v_indexK e8_ok eadB rfl rfl rfl Try.underlying23 (by omega) (by omega)) ?_
  obtain ⟨x30, hx30⟩ : ∃ x, (xs)[(((i : Int) + 1 - 1)).toNat]? = some x := ⟨_, List.getElem?_eq_getElem (by omega)⟩
  have hres : byteR ys = (x30, 0, 1) := byteR_get (by rw [hy, List.getElem?_drop, ← hx30]; congr 1; omega)
  refine Qt.o_val rfl (v_load1 rfl rfl Try.underlying5 rfl (rd_sl0 e8_ok eadB (rds_old hs) hx30 rfl)) ?_
  refine Qt.o_val rfl (v_assign rfl rfl) ?_
  refine Qt.o_val rfl (v_assign rfl rfl) ?_
  refine Qt.l_nil ?_
  refine q_then (c_ret ?_)
  exact f_ret (r_two rfl rfl rfl) (⟨by rw [hres]; rfl, by (rw [hres]; first | done | rfl)⟩) (fun w S => S)
theorem rEyeText {W : World} {F : List Res} {k i : Nat} {xs ys : List UInt8} {a : Option Addr} {c : Nat} (hs : SlR W e8 a xs) (hy : ys = xs.drop i) (hil : i ≤ xs.length) (hsm : xs.length ≤ 70000000000000) (hcc : xs.length ≤ c) : CS Try.prog 51 #[.pointer (some ⟨k, 0, none⟩)] W (blk k (.cells #[.slice a (xs).length c, .int .i64 (i : Int)] 92 (0, 0)) :: F) (fun r L' => ∃ (out : List UInt8) (a2 : Option Addr) (c2 : Nat), out = (textR ys).1 ∧ r = .tuple #[.slice a2 out.length c2, .int .i64 ((textR ys).2.1 : Int)] ∧ L' = row e8.T e8.sz a2 (out).length c2 (flat e8 out) :: blk k (.cells #[.slice a (xs).length c, .int .i64 ((i + (textR ys).2.2 : Nat) : Int)] 92 (0, 0)) :: F) := by
 have hyl : ys.length = xs.length - i := by rw [hy, List.length_drop]
 have hu := numR_used ys 0 0
 refine f_door (l0 := [(0, .pointer (some ⟨k, 0, none⟩))]) Try.func51 Try.ntmps51 rfl rfl rfl ?_
 refine c_seq (c_region (o_assign rfl rfl (o_assign rfl rfl (l_nil (q_then (c_seq (c_region (o_move rfl rfl (o_nil rfl rfl ?_)))))))))
 refine o_fieldAddr (q := ⟨k, 1, none⟩) rfl rfl Try.underlying92 rfl ti3 rfl ?_
 refine o_load1 rfl rfl Try.underlying3 rfl (rd_mem 0 rfl rfl) ?_
 refine o_assign rfl rfl (l_nil (q_then (c_seq (c_region (o_move rfl rfl ?_)))))
 refine o_call rfl cal50 rfl (rEyeNum hs hy hil hsm hcc) ?_
 rintro _ _ ⟨rfl, rfl⟩
 refine o_move rfl rfl (o_extract rfl rfl rfl (o_extract rfl rfl rfl (o_assign rfl rfl (o_assign rfl rfl (l_nil (q_then (c_seq (c_seq (c_region ?_)))))))))
 refine o_move rfl rfl ?_
 refine o_bin rfl rfl rfl b_neq ?_
 refine l_nil (q_then ?_)
 refine c_cond rfl (fun h1 => ?_) (fun h1 => ?_)
 · -- h1T
  try simp only [decide_eq_true_eq, decide_eq_false_iff_not, Bool.not_eq_eq_eq_not, Bool.not_true, Bool.not_false, Bool.not_eq_true', Bool.not_eq_false', Int.not_lt, Int.not_le, Bool.or_eq_true, Bool.and_eq_true] at h1
  refine c_seq ?_
  have htr := textR_err (t := ys) (by omega)
  have hu0 : i + (numR 0 0 ys).2.2 = i + 0 := by omega
  refine c_region ?_
  refine o_lit e8_ok rfl Try.underlying23 rfl rfl rfl (lit_ok rfl) ([] : List UInt8) rfl rfl fun a18 => ?_
  refine o_move rfl rfl (o_assign rfl rfl (o_assign rfl rfl (l_nil (q_then (c_ret (q_pass_ret ?_))))))
  exact f_ret (r_two rfl rfl rfl) (⟨[], _, _, by rw [htr], by rw [htr]; rfl, by (rw [htr]; first | done | rfl)⟩) (fun w S => by rw [hu0] at S; exact S)
 · -- h1F
  try simp only [decide_eq_true_eq, decide_eq_false_iff_not, Bool.not_eq_eq_eq_not, Bool.not_true, Bool.not_false, Bool.not_eq_true', Bool.not_eq_false', Int.not_lt, Int.not_le, Bool.or_eq_true, Bool.and_eq_true] at h1
  refine c_skip (q_then (c_seq (c_seq ?_)))
  refine c_quiet (by kernel_rfl) (by kernel_rfl) ?_
  refine Qt.o_val rfl (v_move rfl rfl) (Qt.o_val rfl (v_move rfl rfl) (Qt.o_val rfl (v_nil rfl rfl) ?_))
  refine Qt.o_val rfl (v_fieldAddr (q := ⟨k, 0, none⟩) rfl rfl Try.underlying92 rfl ti23 rfl) ?_
  refine Qt.o_val rfl (v_load1 rfl rfl Try.underlying23 rfl (rd_mem 0 rfl rfl)) ?_
  refine Qt.o_val rfl (v_len rfl rfl Try.underlying23) ?_
  refine Qt.o_val rfl (v_move rfl rfl) (Qt.o_val rfl (v_nil rfl rfl) ?_)
  refine Qt.o_val rfl (v_fieldAddr (q := ⟨k, 1, none⟩) rfl rfl Try.underlying92 rfl ti3 rfl) ?_
  refine Qt.o_val rfl (v_load1 rfl rfl Try.underlying3 rfl (rd_mem 0 rfl rfl)) ?_
  refine Qt.o_val rfl (v_bin rfl rfl rfl (b_sub (wrap_i64 (by omega) (by omega)))) ?_
  refine Qt.o_val rfl (v_int rfl rfl Try.underlying3 Try.underlying34 (wrap_u64 (by omega) (by omega))) ?_
  refine Qt.o_val rfl (v_bin rfl rfl rfl b_gtr) ?_
  refine Qt.l_nil ?_
  refine q_then ?_
  refine c_cond rfl (fun h2 => ?_) (fun h2 => ?_)
  · -- h2T
   try simp only [decide_eq_true_eq, decide_eq_false_iff_not, Bool.not_eq_eq_eq_not, Bool.not_true, Bool.not_false, Bool.not_eq_true', Bool.not_eq_false', Int.not_lt, Int.not_le, Bool.or_eq_true, Bool.and_eq_true] at h2
   refine c_seq ?_
   have htr := textR_short (t := ys) (by omega) (by omega)
   refine c_region (o_move rfl rfl (o_move rfl rfl (o_nil rfl rfl ?_)))
   refine o_fieldAddr (q := ⟨k, 1, none⟩) rfl rfl Try.underlying92 rfl ti3 rfl ?_
   refine o_store1 rfl rfl rfl ti3 rfl rfl ?_
   refine l_nil (q_then (c_seq (c_region ?_)))
   refine o_lit e8_ok rfl Try.underlying23 rfl rfl rfl (lit_ok rfl) ([] : List UInt8) rfl rfl fun a37 => ?_
   refine o_assign rfl rfl (o_assign rfl rfl (l_nil (q_then (c_ret (q_pass_ret ?_)))))
   exact f_ret (r_two rfl rfl rfl) (⟨[], _, _, by rw [htr], by rw [htr]; rfl, by (rw [htr]; first | done | rfl)⟩) (fun w S => S)
  · -- h2F
   try simp only [decide_eq_true_eq, decide_eq_false_iff_not, Bool.not_eq_eq_eq_not, Bool.not_true, Bool.not_false, Bool.not_eq_true', Bool.not_eq_false', Int.not_lt, Int.not_le, Bool.or_eq_true, Bool.and_eq_true] at h2
   refine c_skip (q_then (c_seq ?_))
   have htr := textR_ok (t := ys) (by omega) (by omega)
   have hadd : ((i + (numR 0 0 ys).2.2 : Nat) : Int) + ((numR 0 0 ys).1 : Int) = ((i + ((numR 0 0 ys).2.2 + (numR 0 0 ys).1) : Nat) : Int) := by omega
   refine c_region (o_move rfl rfl (o_nil rfl rfl ?_))
   refine o_fieldAddr (q := ⟨k, 1, none⟩) rfl rfl Try.underlying92 rfl ti3 rfl ?_
   refine o_load1 rfl rfl Try.underlying3 rfl (rd_mem 0 rfl rfl) ?_
   refine o_move rfl rfl ?_
   refine o_int rfl rfl Try.underlying34 Try.underlying3 (wrap_i64 (by omega) (by omega)) ?_
   refine o_bin rfl rfl rfl (b_add (wrap_i64 (by omega) (by omega))) ?_
   refine o_nil rfl rfl ?_
   refine o_fieldAddr (q := ⟨k, 1, none⟩) rfl rfl Try.underlying92 rfl ti3 rfl ?_
   refine o_store1 rfl rfl rfl ti3 rfl rfl ?_
   refine l_nil (q_then (c_seq ?_))
   refine c_held [blk k (.cells #[.slice a (xs).length c, _] 92 (0, 0))] (by kernel_rfl) rfl ?_
   refine h_take 1 rfl rfl (by kernel_rfl) (by kernel_rfl) (by kernel_rfl) (fun L0 => v_move rfl rfl) ?_
   refine h_take 2 rfl rfl (by kernel_rfl) (by kernel_rfl) (by kernel_rfl) (fun L0 => v_nil rfl rfl) ?_
   refine h_take 3 rfl rfl (by kernel_rfl) (by kernel_rfl) (by kernel_rfl) (fun L0 => v_fieldAddr (q := ⟨k, 0, none⟩) rfl rfl Try.underlying92 rfl ti23 rfl) ?_
   refine h_take 4 rfl rfl (by kernel_rfl) (by kernel_rfl) (by kernel_rfl) (fun L0 => v_load1 rfl rfl Try.underlying23 rfl (rd_mem 0 rfl rfl)) ?_
   refine h_take 5 rfl rfl (by kernel_rfl) (by kernel_rfl) (by kernel_rfl) (fun L0 => v_move rfl rfl) ?_
   refine h_take 6 rfl rfl (by kernel_rfl) (by kernel_rfl) (by kernel_rfl) (fun L0 => v_nil rfl rfl) ?_
   refine h_take 7 rfl rfl (by kernel_rfl) (by kernel_rfl) (by kernel_rfl) (fun L0 => v_fieldAddr (q := ⟨k, 1, none⟩) rfl rfl Try.underlying92 rfl ti3 rfl) ?_
   refine h_take 8 rfl rfl (by kernel_rfl) (by kernel_rfl) (by kernel_rfl) (fun L0 => v_load1 rfl rfl Try.underlying3 rfl (rd_mem 0 rfl rfl)) ?_
   refine h_take 9 rfl rfl (by kernel_rfl) (by kernel_rfl) (by kernel_rfl) (fun L0 => v_move rfl rfl) ?_
   refine h_take 10 rfl rfl (by kernel_rfl) (by kernel_rfl) (by kernel_rfl) (fun L0 => v_int rfl rfl Try.underlying34 Try.underlying3 (wrap_i64 (by omega) (by omega))) ?_
   refine h_take 11 rfl rfl (by kernel_rfl) (by kernel_rfl) (by kernel_rfl) (fun L0 => v_bin rfl rfl rfl (b_sub (wrap_i64 (by omega) (by omega)))) ?_
   refine h_take 12 rfl rfl (by kernel_rfl) (by kernel_rfl) (by kernel_rfl) (fun L0 => v_move rfl rfl) ?_
   refine h_take 13 rfl rfl (by kernel_rfl) (by kernel_rfl) (by kernel_rfl) (fun L0 => v_nil rfl rfl) ?_
   refine h_take 14 rfl rfl (by kernel_rfl) (by kernel_rfl) (by kernel_rfl) (fun L0 => v_fieldAddr (q := ⟨k, 1, none⟩) rfl rfl Try.underlying92 rfl ti3 rfl) ?_
   refine h_take 15 rfl rfl (by kernel_rfl) (by kernel_rfl) (by kernel_rfl) (fun L0 => v_load1 rfl rfl Try.underlying3 rfl (rd_mem 0 rfl rfl)) ?_
   refine h_take 16 rfl rfl (by kernel_rfl) (by kernel_rfl) (by kernel_rfl) (fun L0 => v_cut (l' := (i + (numR 0 0 ys).2.2)) (h' := (i + (numR 0 0 ys).2.2 + (numR 0 0 ys).1)) (m := c) rfl rfl Try.underlying23 ti5 (.inl ⟨rfl, rfl⟩) (.inr ⟨_, _, rfl, icast rfl (by omega), (by omega)⟩) (.inr ⟨_, _, rfl, icast rfl (by omega), (by omega)⟩)) ?_
   obtain ⟨ys63, ay63, cut63, hys63, hlys63, eay63⟩ : ∃ ys_ ay_, (∀ {L : List Res}, RdS W L e8 a xs → RdS W L e8 ay_ ys_) ∧ ys_ = sub xs (i + (numR 0 0 ys).2.2) (i + (numR 0 0 ys).2.2 + (numR 0 0 ys).1) ∧ ys_.length = (i + (numR 0 0 ys).2.2 + (numR 0 0 ys).1) - (i + (numR 0 0 ys).2.2) ∧ cutA a c (i + (numR 0 0 ys).2.2) 1 = ay_ := ⟨_, _, fun h => rds_cut e8_ok h _ _ _ (by omega), rfl, sub_len (by omega), rfl⟩
   refine h_eq (t := 63) (v' := .slice ay63 ys63.length (c - (i + (numR 0 0 ys).2.2))) rfl (by rw [eay63, hlys63]) ?_
   have hs63 : ys63 = sub ys (numR 0 0 ys).2.2 ((numR 0 0 ys).2.2 + (numR 0 0 ys).1) := by rw [hys63, ← sub_drop ys, hy, List.drop_drop, sub_drop]
   refine h_one 0 rfl (by kernel_rfl) ?_
   refine o_lit e8_ok rfl Try.underlying23 rfl rfl rfl (lit_ok rfl) ([] : List UInt8) rfl rfl fun a47 => ?_
   refine l_nil (qP p1 (h_next ?_))
   refine h_one 17 rfl (by kernel_rfl) ?_
   refine l_f1 ?_
   refine o_append e8_ok rfl rfl rfl Try.underlying23 (cut63 (rds_old hs)) (by show (_ + _) * 1 ≤ _; (try simp only [List.length_append, List.length_cons, List.length_nil]); omega) (by (try simp only [List.length_append, List.length_cons, List.length_nil]); omega) fun a64 c64 => ?_
   refine l_nil (qP p1 (h_next ?_))
   refine h_take 18 rfl rfl (by kernel_rfl) (by kernel_rfl) (by kernel_rfl) (fun L0 => v_assign rfl rfl) ?_
   refine h_take 19 rfl rfl (by kernel_rfl) (by kernel_rfl) (by kernel_rfl) (fun L0 => v_assign rfl rfl) ?_
   refine h_done (by kernel_rfl) ?_
   refine q_then (c_ret (qP p1 ?_))
   exact f_ret (r_two rfl rfl rfl) (⟨ys63, a64, c64, by rw [htr]; exact hs63, by rw [htr]; rfl, by (rw [htr]; first | done | rfl)⟩) (fun w S => by rw [hadd] at S; exact S)
end
section
set_option linter.unusedVariables false
set_option linter.unusedSimpArgs false
open Go.RowKit Classical
def E6 (xs : List UInt8) (i : Nat) (ys : List UInt8) : Prop := ys = xs.drop i ∧ i ≤ xs.length
theorem E6.on {xs ys : List UInt8} {i u : Nat} (h : E6 xs i ys) (hu : u ≤ ys.length) : E6 xs (i + u) (ys.drop u) := by
  obtain ⟨rfl, h2⟩ := h
  rw [List.length_drop] at hu
  exact ⟨by rw [List.drop_drop], by omega⟩
theorem E6.le {xs ys : List UInt8} {i : Nat} (h : E6 xs i ys) : ys.length ≤ xs.length := by rw [h.1, List.length_drop]; omega
theorem textR_used {t : List UInt8} : (textR t).2.2 ≤ t.length ∧ (textR t).2.1 ≤ 31 := by
  have h9 := numR_used t 0 0
  by_cases h1 : (numR 0 0 t).2.1 = 0
  · by_cases h2 : t.length - (numR 0 0 t).2.2 < (numR 0 0 t).1
    · rw [textR_short h1 h2]; simp
    · rw [textR_ok h1 h2]
      refine ⟨?_, Nat.zero_le _⟩
      show _ + _ ≤ _
      have := h9.1
      omega
  · rw [textR_err h1]; exact ⟨Nat.zero_le _, h9.2.2.2⟩
theorem byteR_used {t : List UInt8} : (byteR t).2.2 ≤ t.length ∧ (byteR t).2.1 ≤ 31 := by
  cases t <;> simp [byteR]
theorem numR_used0 {t : List UInt8} : (numR 0 0 t).2.2 ≤ t.length ∧ (numR 0 0 t).2.1 ≤ 31 := by
  have h9 := numR_used t 0 0
  exact ⟨by omega, h9.2.2.2⟩
theorem rowsB_ge {M : Rows} : M.length ≤ (rowsB M).length := by
  induction M with
  | nil => simp
  | cons z zs ih =>
    rw [rowsB_cons, List.length_append, List.length_cons]
    have : 0 < (rowB z).length := by unfold rowB; simp; omega
    omega
theorem rowsB_snoc {M : Rows} {z : ByteArray × RecM} : rowsB (M ++ [z]) = rowsB M ++ rowB z := by unfold rowsB; rw [List.flatMap_append]; simp
theorem good_row {n : Int} {t : List UInt8} (hn : n ≤ 3) (he : ((textR t).2.1 : Int) + ((byteR (y1 t)).2.1 : Int) + ((textR (y2 t)).2.1 : Int) + ((numR 0 0 (y3 t)).2.1 : Int) + ((numR 0 0 (y4 t)).2.1 : Int) = 0) (hh : (rdHas t).toNat ≤ 1) (hm : (rdHome t : Int) < n)
    (h0 : ¬ (rdHas t).toNat = 0 ∨ ((rdVal t).length = 0 ∧ ¬ rdCnt t = 0)) (hd : ¬ rdCnt t = 0 ∨ (rdHome t : Int) = dflt (rdKey t) n) : VRow n (rowP t) ∧ t = rowB (rowP t) ++ y5 t := by
  have hne : NoErr t := ⟨by omega, by omega, by omega, by omega, by omega⟩
  have hc : rdCnt t < 18446744073709551616 := num_0 _
  have hmod : rdHome t % 3 = rdHome t := Nat.mod_eq_of_lt (by omega)
  have hP : rowP t = (rdKey t, ⟨decide (rdHas t = 1), rdVal t, (rdHome t : Int), (rdCnt t : Int)⟩) := by unfold rowP; rw [hmod]
  rw [hP]
  refine ⟨⟨?_, hm, ?_, ?_, fun h => ?_, fun h => ?_⟩, row_back hne hh⟩
  · show (0 : Int) ≤ (rdHome t : Int); omega
  · show (0 : Int) ≤ (rdCnt t : Int); omega
  · show (rdCnt t : Int) ≤ 18446744073709551615; omega
  · have h1 : ¬ rdHas t = 1 := of_decide_eq_false h
    have h2 : (rdHas t).toNat = 0 := by
      have : ¬ (rdHas t).toNat = 1 := fun h9 => h1 (UInt8.toNat_inj.1 h9)
      omega
    rcases h0 with h0 | ⟨h3, h4⟩
    · exact absurd h2 h0
    · exact ⟨List.eq_nil_of_length_eq_zero h3, by show ¬ (rdCnt t : Int) = 0; omega⟩
  · rcases hd with hd | hd
    · have : (rdCnt t : Int) = 0 := h
      omega
    · exact hd
theorem last_all {xs : List ItA} {y : ItA} {k : ByteArray} {j : Nat} (hs : Srt ItA.f_key strlt xs) (hy : xs[j]? = some y) (hj : j + 1 = xs.length) (hl : strlt y.f_key k) : ∀ x ∈ xs, strlt x.f_key k := fun x hx => by
  have e := take_get hy
  rw [List.drop_of_length_le (show xs.length ≤ j + 1 by omega)] at e
  have hs9 := hs
  rw [e] at hs9 hx
  rcases List.mem_append.1 hx with h | h
  · exact strlt_sto.tr ((List.pairwise_append.1 hs9).2.2 x h y (by simp)) hl
  · obtain rfl : x = y := by simpa using h
    exact hl
/-- The bytes so far are those of the rows that were read. -/
structure DRB (n : Int) (bs : List UInt8) (N c : Nat) (ye : List UInt8) (xs : List ItA) : Prop where
  back : bs = numB n.toNat ++ (numB N ++ (rowsB (xs.map proj) ++ ye))
  rows : ∀ z ∈ xs.map proj, VRow n z
  srt : Srt ItA.f_key strlt xs
  cnt : xs.length + c = N
  okr : ∀ x ∈ xs, OkR 3 x.f_value.m
  len : xs.length ≤ bs.length
theorem DRB.start {n : Int} {bs y : List UInt8} (hn0 : 1 ≤ n) (e : ((numR 0 0 bs).2.1 : Int) + ((numR 0 0 y).2.1 : Int) = 0) (hg : ((numR 0 0 bs).1 : Int) = n) (h1 : y = bs.drop (numR 0 0 bs).2.2) : DRB n bs (numR 0 0 y).1 (numR 0 0 y).1 (y.drop (numR 0 0 y).2.2) [] := by
  refine ⟨?_, fun z hz => by simp at hz, List.Pairwise.nil, by simp, fun x hx => by simp at hx, Nat.zero_le _⟩
  have a := numR_is (t := bs) (by omega)
  have b := numR_is (t := y) (by omega)
  rw [← h1] at a
  show bs = numB n.toNat ++ (numB _ ++ ([] ++ _))
  rw [List.nil_append, ← b, ← hg]
  exact a
theorem DRB.on {n : Int} {bs ye y' : List UInt8} {N c : Nat} {xs : List ItA} {x : ItA} (h : DRB n bs N c ye xs) (hc : 0 < c) (hl : ye.length ≤ 3000) (hg : VRow n (rowP ye) ∧ ye = rowB (rowP ye) ++ y5 ye) (hx : proj x = rowP ye) (hk : ∀ p ∈ xs, strlt p.f_key x.f_key) (hy : y' = y5 ye) : DRB n bs N (c - 1) y' (xs ++ [x]) := by
  have hb : bs = numB n.toNat ++ (numB N ++ (rowsB ((xs ++ [x]).map proj) ++ y')) := by
    rw [List.map_append, List.map_cons, List.map_nil, rowsB_snoc, hx, hy, List.append_assoc, ← hg.2]; exact h.back
  refine ⟨hb, fun z hz => ?_, ?_, ?_, fun z hz => ?_, ?_⟩
  · rw [List.map_append] at hz
    rcases List.mem_append.1 hz with h9 | h9
    · exact h.rows z h9
    · obtain rfl : z = proj x := by simpa using h9
      rw [hx]; exact hg.1
  · exact List.pairwise_append.2 ⟨h.srt, by simp, fun p hp q hq => by obtain rfl : q = x := (by simpa using hq); exact hk p hp⟩
  · have := h.cnt
    rw [List.length_append]; simp only [List.length_cons, List.length_nil]; omega
  · rcases List.mem_append.1 hz with h9 | h9
    · exact h.okr z h9
    · obtain rfl : z = x := by simpa using h9
      exact (PRI.okr hx hl).1
  · have h9 := congrArg List.length hb
    have h8 := rowsB_ge (M := (xs ++ [x]).map proj)
    rw [List.length_map] at h8
    simp only [List.length_append] at h8 h9 ⊢
    simp only [List.length_cons, List.length_nil] at h8 h9 ⊢
    omega
theorem DRB.fin {n : Int} {bs ye : List UInt8} {N c : Nat} {xs : List ItA} (h : DRB n bs N c ye xs) (hc : c = 0) (hN : NotSnap n bs) : ¬ (endR ye : Int) = 0 := fun h9 => by
  have hy : ye = [] := by
    unfold endR at h9
    split at h9
    · omega
    · exact List.eq_nil_of_length_eq_zero (by omega)
  refine hN (xs.map proj) ⟨srt_M h.srt, h.rows⟩ ?_
  have h1 := h.cnt
  unfold snapB
  rw [List.length_map, show xs.length = N by omega, List.append_assoc]
  have h2 := h.back
  rw [hy, List.append_nil] at h2
  exact h2
/-- The rows that were read are the first ones of the store's. -/
structure DRT (n : Int) (bs : List UInt8) (M : Rows) (c : Nat) (ye : List UInt8) (xs : List ItA) : Prop where
  le : M.length ≤ bs.length
  ex : ∃ j, j ≤ M.length ∧ c = M.length - j ∧ xs.map proj = M.take j ∧ ye = rowsB (M.drop j)
  srt : Srt ItA.f_key strlt xs
  okr : ∀ x ∈ xs, OkR 3 x.f_value.m
  len : xs.length ≤ bs.length
theorem DRT.start {n : Int} {bs y y' : List UInt8} {M : Rows} (hn0 : 1 ≤ n) (hn : n ≤ 3) (hl : bs.length ≤ 3000) (hb : bs = snapB n M) (h1 : y = bs.drop (numR 0 0 bs).2.2) (h2 : y' = y.drop (numR 0 0 y).2.2) : DRT n bs M (numR 0 0 y).1 y' [] := by
  obtain ⟨a1, a2, a3, a4, a5⟩ := snap_hd hn0 hn (by omega) hb
  rw [← h1] at a3 a4 a5
  have hle : M.length ≤ bs.length := by
    have h9 := congrArg List.length hb
    have h8 := rowsB_ge (M := M)
    unfold snapB at h9
    simp only [List.length_append] at h9
    omega
  exact ⟨hle, ⟨0, Nat.zero_le _, by rw [a4]; rfl, by simp, by rw [h2, a5]; rfl⟩, List.Pairwise.nil, fun x hx => by simp at hx, Nat.zero_le _⟩
/-- What the next row's reading gives. -/
theorem DRT.row {n : Int} {bs ye : List UInt8} {M : Rows} {c : Nat} {xs : List ItA} (h : DRT n bs M c ye xs) (hc : 0 < c) (hM : ValidM n M) (hn : n ≤ 3) (hl : ye.length ≤ 3000) :
    NoErr ye ∧ (rdHas ye).toNat ≤ 1 ∧ (rdHome ye : Int) < n ∧ ((rdHas ye).toNat = 0 → (rdVal ye).length = 0 ∧ ¬ rdCnt ye = 0) ∧ (rdCnt ye = 0 → (rdHome ye : Int) = dflt (rdKey ye) n) ∧ (∀ p ∈ xs, strlt p.f_key (rdKey ye)) ∧
    ∀ (x : ItA) (y' : List UInt8), proj x = rowP ye → y' = y5 ye → DRT n bs M (c - 1) y' (xs ++ [x]) := by
  obtain ⟨j, hj, hcj, hMj, hye⟩ := h.ex
  obtain ⟨z, hz⟩ : ∃ z, M[j]? = some z := ⟨_, List.getElem?_eq_getElem (show j < M.length by omega)⟩
  obtain ⟨v1, v2, v3, v4⟩ := hM.at hz
  obtain ⟨r1, r2, r3, r4, r5, r6, r7⟩ := row_there hn v1 (by omega) (hye.trans v3)
  have hP := rowP_of hn v1 r2 r3 r4 r5 r6
  have hk : ∀ p ∈ xs, strlt p.f_key (rdKey ye) := fun p hp => by
    rw [r2]; exact v4 (proj p) (by rw [← hMj]; exact List.mem_map.2 ⟨p, hp, rfl⟩)
  refine ⟨r1, ?_, by rw [r5]; exact v1.hn, fun h0 => ?_, fun h0 => ?_, hk, fun x y' hx hy => ?_⟩
  · rw [r3]; cases z.2.has <;> decide
  · have h1 : z.2.has = false := by
      rw [r3] at h0
      cases h9 : z.2.has with
      | false => rfl
      | true => rw [h9] at h0; revert h0; decide
    obtain ⟨n1, n2⟩ := v1.no h1
    exact ⟨by rw [r4, n1]; rfl, fun h9 => n2 (by rw [← r6, h9]; rfl)⟩
  · rw [r5, r2]; exact v1.df (by rw [← r6, h0]; rfl)
  · have hmap : (xs ++ [x]).map proj = M.take (j + 1) := by rw [List.map_append, hMj, take_snoc' hz, List.map_cons, List.map_nil, hx, hP]
    have hxk : x.f_key = rdKey ye := congrArg Prod.fst hx
    refine ⟨h.le, ⟨j + 1, by omega, by omega, hmap, hy.trans r7⟩, ?_, fun z hz => ?_, ?_⟩
    · exact List.pairwise_append.2 ⟨h.srt, by simp, fun p hp q hq => by obtain rfl : q = x := (by simpa using hq); rw [hxk]; exact hk p hp⟩
    · rcases List.mem_append.1 hz with h9 | h9
      · exact h.okr z h9
      · obtain rfl : z = x := by simpa using h9
        exact (PRI.okr hx hl).1
    · have h9 := congrArg List.length hmap
      rw [List.length_map, List.length_take] at h9
      have := h.le
      omega
theorem DRT.fin {n : Int} {bs ye : List UInt8} {M : Rows} {c : Nat} {xs : List ItA} (h : DRT n bs M c ye xs) (hc : c = 0) : xs.map proj = M ∧ endR ye = 0 := by
  obtain ⟨j, h1, h2, h3, h4⟩ := h.ex
  refine ⟨by rw [h3, List.take_of_length_le (by omega)], ?_⟩
  rw [h4, List.drop_of_length_le (by omega)]; rfl
end
end Go.Proofs.Ytnfbjidpiglabaa
