/- Texts of the proof: RRes6, RRes7. -/
import Derived.Test.YtnfbjidpiglabaaRQE
namespace Go.Proofs.Ytnfbjidpiglabaa
section
set_option linter.unusedVariables false
set_option linter.unusedSimpArgs false
set_option maxRecDepth 10000
open Go.RowKit Classical
theorem r6num {W : World} {F : List Res} {ke i : Nat} {bs ys : List UInt8} {a : Option Addr} {c : Nat} (hs : SlR W e8 a bs) (he : E6 bs i ys) (hsm : bs.length ≤ 3000) (hcc : bs.length ≤ c) : CS Try.prog 50 #[.pointer (some ⟨ke, 0, none⟩)] W (blk ke (.cells #[.slice a (bs).length c, .int .i64 (i : Int)] 92 (0, 0)) :: F) (fun r L' => ∃ (ys' : List UInt8) (i' : Nat), E6 bs i' ys' ∧ ys' = ys.drop (numR 0 0 ys).2.2 ∧ r = .tuple #[.int .u64 ((numR 0 0 ys).1 : Int), .int .i64 ((numR 0 0 ys).2.1 : Int)] ∧ L' = blk ke (.cells #[.slice a (bs).length c, .int .i64 (i' : Int)] 92 (0, 0)) :: F) := by
  refine csWeak (rEyeNum hs he.1 he.2 (by omega) hcc) ?_
  rintro v L' ⟨rfl, rfl⟩
  exact ⟨_, ⟨_, _, he.on numR_used0.1, rfl, rfl, rfl⟩, fun w S => S⟩
theorem r6byte {W : World} {F : List Res} {ke i : Nat} {bs ys : List UInt8} {a : Option Addr} {c : Nat} (hs : SlR W e8 a bs) (he : E6 bs i ys) (hsm : bs.length ≤ 3000) (hcc : bs.length ≤ c) : CS Try.prog 52 #[.pointer (some ⟨ke, 0, none⟩)] W (blk ke (.cells #[.slice a (bs).length c, .int .i64 (i : Int)] 92 (0, 0)) :: F) (fun r L' => ∃ (ys' : List UInt8) (i' : Nat), E6 bs i' ys' ∧ ys' = ys.drop (byteR ys).2.2 ∧ r = .tuple #[.int .u8 ((byteR ys).1.toNat : Int), .int .i64 ((byteR ys).2.1 : Int)] ∧ L' = blk ke (.cells #[.slice a (bs).length c, .int .i64 (i' : Int)] 92 (0, 0)) :: F) := by
  refine csWeak (rEyeByte hs he.1 he.2 (by omega) hcc) ?_
  rintro v L' ⟨rfl, rfl⟩
  exact ⟨_, ⟨_, _, he.on byteR_used.1, rfl, rfl, rfl⟩, fun w S => S⟩
theorem r6text {W : World} {F : List Res} {ke i : Nat} {bs ys : List UInt8} {a : Option Addr} {c : Nat} (hs : SlR W e8 a bs) (he : E6 bs i ys) (hsm : bs.length ≤ 3000) (hcc : bs.length ≤ c) : CS Try.prog 51 #[.pointer (some ⟨ke, 0, none⟩)] W (blk ke (.cells #[.slice a (bs).length c, .int .i64 (i : Int)] 92 (0, 0)) :: F) (fun r L' => ∃ (out : List UInt8) (a2 : Option Addr) (c2 : Nat) (ys' : List UInt8) (i' : Nat), out = (textR ys).1 ∧ E6 bs i' ys' ∧ ys' = ys.drop (textR ys).2.2 ∧ r = .tuple #[.slice a2 out.length c2, .int .i64 ((textR ys).2.1 : Int)] ∧ L' = row e8.T e8.sz a2 (out).length c2 (flat e8 out) :: blk ke (.cells #[.slice a (bs).length c, .int .i64 (i' : Int)] 92 (0, 0)) :: F) := by
  refine csWeak (rEyeText hs he.1 he.2 (by omega) hcc) ?_
  rintro v L' ⟨out, a2, c2, ho, rfl, rfl⟩
  exact ⟨_, ⟨out, a2, c2, _, _, ho, he.on textR_used.1, rfl, rfl, rfl⟩, fun w S => S⟩
theorem r6end {W : World} {F : List Res} {ke i : Nat} {bs ys : List UInt8} {a : Option Addr} {c : Nat} (hs : SlR W e8 a bs) (he : E6 bs i ys) (hsm : bs.length ≤ 3000) (hcc : bs.length ≤ c) : CS Try.prog 53 #[.pointer (some ⟨ke, 0, none⟩)] W (blk ke (.cells #[.slice a (bs).length c, .int .i64 (i : Int)] 92 (0, 0)) :: F) (fun r L' => r = .int .i64 (endR ys : Int) ∧ L' = blk ke (.cells #[.slice a (bs).length c, .int .i64 (i : Int)] 92 (0, 0)) :: F) := rEyeEnd hs he.1 he.2 (by omega) hcc
theorem rrest_lo {W : World} {F : List Res} {n : Int} {bs : List UInt8} {a : Option Addr} {c : Nat} (hs : SlR W e8 a bs) (hl : bs.length ≤ 3000) (hcc : bs.length ≤ c) (h1n : n < 1) : CS Try.prog 28 #[.slice a (bs).length c, .int .i64 n] W (F) (fun r L' => r = .tuple #[.pointer none, .int .i64 31] ∧ F = L') := by
 refine f_door (l0 := [(0, .slice a (bs).length c), (1, .int .i64 n)]) Try.func28 Try.ntmps28 rfl rfl rfl ?_
 refine c_seq (c_region (o_assign rfl rfl (o_assign rfl rfl (l_nil (q_then (c_seq (c_seq (c_region (o_move rfl rfl ?_)))))))))
 refine o_bin rfl rfl rfl b_lss ?_
 refine l_eq (t := 24) (v' := .bool true) rfl (show _ = Value.bool true from by rw [decide_eq_true (by omega)]) ?_
 refine o_move rfl rfl (o_no rfl rfl rfl rfl (o_no rfl rfl rfl rfl (o_pick_true rfl rfl rfl (l_nil (q_then (c_true rfl (c_seq (c_region (o_assign rfl rfl ?_)))))))))
 refine o_assign rfl rfl (l_nil (q_then (c_ret (q_pass_ret ?_))))
 exact f_ret (r_two rfl rfl rfl) (⟨rfl, rfl⟩) (fun w S => S)
theorem rrest_hi {W : World} {F : List Res} {n : Int} {bs : List UInt8} {a : Option Addr} {c : Nat} (hs : SlR W e8 a bs) (hl : bs.length ≤ 3000) (hcc : bs.length ≤ c) (h1n : 3 < n) : CS Try.prog 28 #[.slice a (bs).length c, .int .i64 n] W (F) (fun r L' => r = .tuple #[.pointer none, .int .i64 31] ∧ F = L') := by
 refine f_door (l0 := [(0, .slice a (bs).length c), (1, .int .i64 n)]) Try.func28 Try.ntmps28 rfl rfl rfl ?_
 refine c_seq (c_region (o_assign rfl rfl (o_assign rfl rfl (l_nil (q_then (c_seq (c_seq (c_region (o_move rfl rfl ?_)))))))))
 refine o_bin rfl rfl rfl b_lss ?_
 refine l_eq (t := 24) (v' := .bool false) rfl (show _ = Value.bool false from by rw [decide_eq_false (by omega)]) ?_
 refine o_move rfl rfl (o_yes rfl rfl rfl (o_move rfl rfl (o_yes rfl rfl rfl ?_)))
 refine o_bin rfl rfl rfl b_gtr ?_
 refine l_eq (t := 27) (v' := .bool true) rfl (show _ = Value.bool true from by rw [decide_eq_true (by omega)]) ?_
 refine o_pick_false rfl rfl rfl (l_nil (q_then (c_true rfl (c_seq (c_region (o_assign rfl rfl (o_assign rfl rfl (l_nil (q_then ?_)))))))))
 refine c_ret (q_pass_ret ?_)
 exact f_ret (r_two rfl rfl rfl) (⟨rfl, rfl⟩) (fun w S => S)
set_option maxHeartbeats 4000000 in
theorem rrest_no {W : World} {F : List Res} {n : Int} {bs : List UInt8} {a : Option Addr} {c : Nat} (hs : SlR W e8 a bs) (hl : bs.length ≤ 3000) (hcc : bs.length ≤ c) (h1n : 1 ≤ n) (hn3 : n ≤ 3) (hN : NotSnap n bs) : CS Try.prog 28 #[.slice a (bs).length c, .int .i64 n] W (F) (fun r L' => r = .tuple #[.pointer none, .int .i64 31] ∧ F = L') := by
 refine f_door (l0 := [(0, .slice a (bs).length c), (1, .int .i64 n)]) Try.func28 Try.ntmps28 rfl rfl rfl ?_
 refine c_seq (c_region (o_assign rfl rfl (o_assign rfl rfl (l_nil (q_then (c_seq (c_seq (c_region (o_move rfl rfl ?_)))))))))
 refine o_bin rfl rfl rfl b_lss ?_
 refine l_eq (t := 24) (v' := .bool false) rfl (show _ = Value.bool false from by rw [decide_eq_false (by omega)]) ?_
 refine o_move rfl rfl (o_yes rfl rfl rfl (o_move rfl rfl (o_yes rfl rfl rfl ?_)))
 refine o_bin rfl rfl rfl b_gtr ?_
 refine l_eq (t := 27) (v' := .bool false) rfl (show _ = Value.bool false from by rw [decide_eq_false (by omega)]) ?_
 refine o_pick_false rfl rfl rfl (l_nil (q_then (c_false rfl (c_skip (q_then (c_seq (c_region (o_move rfl rfl ?_))))))))
 refine o_build rfl sp92 ti92 rfl ((fill_cons (cells' := [.slice a (bs).length c, .int .i64 0]) rfl rfl rfl rfl fill_nil)) ?_
 refine o_box rfl rfl fun ke => ?_
 refine o_assign rfl rfl (l_nil (q_then (c_seq ?_)))
 obtain ⟨i0, ys0, hi0, he0, hys0⟩ : ∃ (i0 : Nat) (ys0 : List UInt8), i0 = 0 ∧ E6 bs i0 ys0 ∧ ys0 = bs := ⟨0, bs, rfl, ⟨rfl, Nat.zero_le _⟩, rfl⟩
 refine c_conv (L' := blk ke (.cells #[.slice a (bs).length c, .int .i64 (i0 : Int)] 92 (0, 0)) :: _) (fun w S => by subst hi0; exact S) ?_
 refine c_region (o_move rfl rfl ?_)
 refine o_call rfl cal50 rfl (r6num hs he0 hl hcc) ?_
 rintro _ _ ⟨ys34, i34, he34, dr34, rfl, rfl⟩
 have hu34 := numR_used0 (t := ys0)
 have hz34 := num_0 ys0
 refine o_move rfl rfl (o_extract rfl rfl rfl (o_extract rfl rfl rfl (o_assign rfl rfl (o_assign rfl rfl (l_nil (q_then (c_seq (c_region (o_move rfl rfl ?_)))))))))
 refine o_call rfl cal50 rfl (r6num hs he34 hl hcc) ?_
 rintro _ _ ⟨ys39, i39, he39, dr39, rfl, rfl⟩
 have hu39 := numR_used0 (t := ys34)
 have hz39 := num_0 ys34
 refine o_move rfl rfl (o_extract rfl rfl rfl (o_extract rfl rfl rfl (o_assign rfl rfl (o_assign rfl rfl (l_nil (q_then (c_seq (c_seq (c_region ?_)))))))))
 refine o_move rfl rfl (o_move rfl rfl ?_)
 refine o_bin rfl rfl rfl (b_add (wrap_i64 (by omega) (by omega))) ?_
 refine o_bin rfl rfl rfl b_neq ?_
 refine o_move rfl rfl ?_
 refine l_split (t := 46) rfl (fun h1 => ?_) (fun h1 => ?_)
 · -- h1T
  have h1b := h1
  try simp only [Bool.not_eq_true', decide_eq_false_iff_not, Int.not_lt, Int.not_le] at h1
  refine o_no rfl rfl rfl rfl (o_no rfl rfl rfl rfl (o_no rfl rfl rfl rfl (o_no rfl rfl rfl rfl (o_pick_true rfl rfl rfl (l_nil (q_then (c_true rfl (c_seq (c_region ?_)))))))))
  refine o_assign rfl rfl (o_assign rfl rfl (l_nil (q_then (c_ret (q_pass_ret (qT ?_))))))
  exact f_ret (r_two rfl rfl rfl) (⟨rfl, rfl⟩) (fun w S => S)
 · -- h1F
  have h1b := h1
  try simp only [Bool.not_eq_false', decide_eq_true_eq] at h1
  refine o_yes rfl rfl rfl (o_move rfl rfl (o_yes rfl rfl rfl (o_move rfl rfl (o_yes rfl rfl rfl ?_))))
  refine o_int rfl rfl Try.underlying3 Try.underlying34 (wrap_u64 (by omega) (by omega)) ?_
  refine o_yes rfl rfl rfl ?_
  refine o_bin rfl rfl rfl b_neq ?_
  refine o_pick_false rfl rfl rfl (l_nil (q_then ?_))
  refine c_cond rfl (fun h2 => ?_) (fun h2 => ?_)
  · -- h2T
   have h2b := h2
   try simp only [Bool.not_eq_true', decide_eq_false_iff_not, Int.not_lt, Int.not_le] at h2
   refine c_seq (c_region (o_assign rfl rfl (o_assign rfl rfl (l_nil (q_then (c_ret (q_pass_ret (qT ?_))))))))
   exact f_ret (r_two rfl rfl rfl) (⟨rfl, rfl⟩) (fun w S => S)
  · -- h2F
   have h2b := h2
   try simp only [Bool.not_eq_false', decide_eq_true_eq] at h2
   refine c_skip (q_then (c_seq (c_region (o_move rfl rfl ?_))))
   refine o_call rfl cal15 rfl (rnew_ (n := n) (by omega) (by omega)) ?_
   rintro _ _ ⟨m53, rfl, rfl⟩
   refine o_assign rfl rfl (l_nil (q_then (c_seq (c_block ?_))))
   refine c_obj ?_
   rintro ⟨a_1, c_1⟩ ok_1
   refine c_conv (L' := blk m53 (.cells #[.int .i64 ((⟨n, []⟩ : SS).n), .slice a_1 ((⟨n, []⟩ : SS).xs).length c_1] 54 (0, 0)) :: row e_Row.T e_Row.sz a_1 ((⟨n, []⟩ : SS).xs).length c_1 (flat e_Row ((⟨n, []⟩ : SS).xs)) :: vals ((⟨n, []⟩ : SS).xs) :: _) (fun w S => S) ?_
   refine c_loop (α := Nat × Nat × (List UInt8) × (List ItA) × (Option Addr) × Nat) (fun z => [(1, .int .i64 n), (6, .pointer (some ⟨ke, 0, none⟩)), (9, .int .u64 (z.1 : Int)), (11, .pointer (some ⟨m53, 0, none⟩))]) (fun z => blk m53 (.cells #[.int .i64 n, .slice z.2.2.2.2.1 (z.2.2.2.1).length z.2.2.2.2.2] 54 (0, 0)) :: row e_Row.T e_Row.sz z.2.2.2.2.1 (z.2.2.2.1).length z.2.2.2.2.2 (flat e_Row z.2.2.2.1) :: vals z.2.2.2.1 :: blk ke (.cells #[.slice a (bs).length c, .int .i64 (z.2.1 : Int)] 92 (0, 0)) :: F) (fun z => z.1 < 18446744073709551616 ∧ E6 bs z.2.1 z.2.2.1 ∧ DRB n bs (numR 0 0 ys34).1 z.1 z.2.2.1 z.2.2.2.1) (fun z => z.1) ((numR 0 0 ys34).1, i39, ys39, [], a_1, c_1) (by exact ⟨num_0 _, he39, by rw [dr39]; exact DRB.start h1n (by rw [← hys0]; omega) (by rw [← hys0]; omega) (by rw [← hys0]; exact dr34)⟩) ⟨vr, vr, vr, vr, trivial⟩ (fun w S => S) ?_
   rintro ⟨m, ie, yse, xs, ax, cx⟩ ⟨hm64, hee, hdr⟩
   try dsimp only at *
   refine c_seq (c_seq (c_region (o_move rfl rfl ?_)))
   refine o_bin rfl rfl rfl b_gtr ?_
   refine l_nil (q_then ?_)
   refine c_cond rfl (fun h3 => ?_) (fun h3 => ?_)
   · -- h3T
    have h3b := h3
    try simp only [decide_eq_true_eq] at h3
    refine c_skip (q_then (c_seq (c_block (c_seq (c_region (o_move rfl rfl (l_f3 ?_)))))))
    refine o_call rfl cal51 rfl (r6text hs hee hl hcc) ?_
    rintro _ _ ⟨out60, a60, c60, ys60, i60, hout60, he60, dr60, rfl, rfl⟩
    have hu60 := textR_used (t := yse)
    refine o_move rfl rfl (o_extract rfl rfl rfl (o_extract rfl rfl rfl (o_assign rfl rfl (o_assign rfl rfl (l_nil (q_then (c_seq (c_region (o_move rfl rfl ?_)))))))))
    refine l_f1 ?_
    refine o_call rfl cal52 rfl (r6byte hs he60 hl hcc) ?_
    rintro _ _ ⟨ys65, i65, he65, dr65, rfl, rfl⟩
    have hu65 := byteR_used (t := ys60)
    have hz65 := (byteR ys60).1.toNat_lt
    refine o_move rfl rfl (o_extract rfl rfl rfl (o_extract rfl rfl rfl (o_assign rfl rfl (o_assign rfl rfl (l_nil (q_then (c_seq (c_region (o_move rfl rfl ?_)))))))))
    refine o_call rfl cal51 rfl (r6text hs he65 hl hcc) ?_
    rintro _ _ ⟨out70, a70, c70, ys70, i70, hout70, he70, dr70, rfl, rfl⟩
    have hu70 := textR_used (t := ys65)
    refine o_move rfl rfl (o_extract rfl rfl rfl (o_extract rfl rfl rfl (o_assign rfl rfl (o_assign rfl rfl (l_nil (q_then (c_seq (c_region (o_move rfl rfl ?_)))))))))
    refine l_f1 ?_
    refine o_call rfl cal50 rfl (r6num hs he70 hl hcc) ?_
    rintro _ _ ⟨ys75, i75, he75, dr75, rfl, rfl⟩
    have hu75 := numR_used0 (t := ys70)
    have hz75 := num_0 ys70
    refine o_move rfl rfl (o_extract rfl rfl rfl (o_extract rfl rfl rfl (o_assign rfl rfl (o_assign rfl rfl (l_nil (q_then (c_seq (c_region (o_move rfl rfl ?_)))))))))
    refine o_call rfl cal50 rfl (r6num hs he75 hl hcc) ?_
    rintro _ _ ⟨ys80, i80, he80, dr80, rfl, rfl⟩
    have hu80 := numR_used0 (t := ys75)
    have hz80 := num_0 ys75
    refine o_move rfl rfl (o_extract rfl rfl rfl (o_extract rfl rfl rfl (o_assign rfl rfl (o_assign rfl rfl (l_nil (q_then (c_seq (c_seq ?_))))))))
    have hyl : yse.length ≤ 3000 := by have h9 := hee.le; omega
    have f60 : ys60 = y1 yse := dr60
    have f65 : ys65 = y2 yse := by rw [dr65, f60]; rfl
    have f70 : ys70 = y3 yse := by rw [dr70, f65]; rfl
    have f75 : ys75 = y4 yse := by rw [dr75, f70]; rfl
    have f80 : ys80 = y5 yse := by rw [dr80, f75]; rfl
    refine c_region (o_move rfl rfl (o_move rfl rfl ?_))
    refine o_bin rfl rfl rfl (b_add (wrap_i64 (by omega) (by omega))) ?_
    refine o_move rfl rfl ?_
    refine o_bin rfl rfl rfl (b_add (wrap_i64 (by omega) (by omega))) ?_
    refine o_move rfl rfl ?_
    refine o_bin rfl rfl rfl (b_add (wrap_i64 (by omega) (by omega))) ?_
    refine o_move rfl rfl ?_
    refine o_bin rfl rfl rfl (b_add (wrap_i64 (by omega) (by omega))) ?_
    refine o_bin rfl rfl rfl b_neq ?_
    refine o_move rfl rfl ?_
    refine l_split (t := 93) rfl (fun h4 => ?_) (fun h4 => ?_)
    · -- h4T
     have h4b := h4
     try simp only [Bool.not_eq_true', decide_eq_false_iff_not, Int.not_lt, Int.not_le] at h4
     refine o_no rfl rfl rfl rfl (o_no rfl rfl rfl rfl (o_pick_true rfl rfl rfl (o_move rfl rfl (o_no rfl rfl rfl rfl (o_no rfl rfl rfl rfl (o_no rfl rfl rfl rfl (o_no rfl rfl rfl rfl (o_pick_true rfl rfl rfl (o_move rfl rfl ?_)))))))))
     refine o_no rfl rfl rfl rfl (o_no rfl rfl rfl rfl (o_no rfl rfl rfl rfl (o_no rfl rfl rfl rfl (o_no rfl rfl rfl rfl (o_no rfl rfl rfl rfl (o_no rfl rfl rfl rfl (o_no rfl rfl rfl rfl (o_no rfl rfl rfl rfl (o_no rfl rfl rfl rfl ?_)))))))))
     refine o_no rfl rfl rfl rfl (o_pick_true rfl rfl rfl (o_move rfl rfl (o_no rfl rfl rfl rfl (o_no rfl rfl rfl rfl (o_no rfl rfl rfl rfl (o_no rfl rfl rfl rfl (o_no rfl rfl rfl rfl (o_no rfl rfl rfl rfl (o_no rfl rfl rfl rfl ?_)))))))))
     refine o_no rfl rfl rfl rfl (o_no rfl rfl rfl rfl (o_no rfl rfl rfl rfl (o_no rfl rfl rfl rfl (o_pick_true rfl rfl rfl (l_nil (q_then (c_true rfl (c_seq (c_region ?_)))))))))
     refine o_assign rfl rfl (o_assign rfl rfl (l_nil (q_then (c_ret (q_pass_ret ?_)))))
     refine q_block_ret ?_
     refine q_pass_ret (q_pass_ret ?_)
     refine q_block_ret ?_
     refine q_pass_ret (qT (qT (qT (qT (qT (qT ?_))))))
     exact f_ret (r_two rfl rfl rfl) (⟨rfl, rfl⟩) (fun w S => S)
    · -- h4F
     have h4b := h4
     try simp only [Bool.not_eq_false', decide_eq_true_eq] at h4
     refine o_yes rfl rfl rfl (o_move rfl rfl (o_yes rfl rfl rfl ?_))
     refine o_bin rfl rfl rfl b_gtr ?_
     refine o_pick_false rfl rfl rfl (o_move rfl rfl ?_)
     refine l_split (t := 97) rfl (fun h5 => ?_) (fun h5 => ?_)
     · -- h5T
      have h5b := h5
      try simp only [decide_eq_true_eq] at h5
      refine o_no rfl rfl rfl rfl (o_no rfl rfl rfl rfl (o_no rfl rfl rfl rfl (o_no rfl rfl rfl rfl (o_pick_true rfl rfl rfl (o_move rfl rfl (o_no rfl rfl rfl rfl (o_no rfl rfl rfl rfl (o_no rfl rfl rfl rfl (o_no rfl rfl rfl rfl ?_)))))))))
      refine o_no rfl rfl rfl rfl (o_no rfl rfl rfl rfl (o_no rfl rfl rfl rfl (o_no rfl rfl rfl rfl (o_no rfl rfl rfl rfl (o_no rfl rfl rfl rfl (o_no rfl rfl rfl rfl (o_pick_true rfl rfl rfl (o_move rfl rfl (o_no rfl rfl rfl rfl ?_)))))))))
      refine o_no rfl rfl rfl rfl (o_no rfl rfl rfl rfl (o_no rfl rfl rfl rfl (o_no rfl rfl rfl rfl (o_no rfl rfl rfl rfl (o_no rfl rfl rfl rfl (o_no rfl rfl rfl rfl (o_no rfl rfl rfl rfl (o_no rfl rfl rfl rfl (o_no rfl rfl rfl rfl ?_)))))))))
      refine o_pick_true rfl rfl rfl (l_nil (q_then (c_true rfl (c_seq (c_region (o_assign rfl rfl (o_assign rfl rfl (l_nil (q_then ?_)))))))))
      refine c_ret (q_pass_ret ?_)
      refine q_block_ret ?_
      refine q_pass_ret (q_pass_ret ?_)
      refine q_block_ret ?_
      refine q_pass_ret (qT (qT (qT (qT (qT (qT ?_))))))
      exact f_ret (r_two rfl rfl rfl) (⟨rfl, rfl⟩) (fun w S => S)
     · -- h5F
      have h5b := h5
      try simp only [decide_eq_false_iff_not, Int.not_lt, Int.not_le] at h5
      refine o_yes rfl rfl rfl (o_move rfl rfl (o_yes rfl rfl rfl (o_move rfl rfl (o_yes rfl rfl rfl ?_))))
      refine o_int rfl rfl Try.underlying3 Try.underlying34 (wrap_u64 (by omega) (by omega)) ?_
      refine o_yes rfl rfl rfl ?_
      refine o_bin rfl rfl rfl b_geq ?_
      refine o_pick_false rfl rfl rfl (o_move rfl rfl ?_)
      refine l_split (t := 103) rfl (fun h6 => ?_) (fun h6 => ?_)
      · -- h6T
       have h6b := h6
       try simp only [decide_eq_true_eq] at h6
       refine o_no rfl rfl rfl rfl (o_no rfl rfl rfl rfl (o_no rfl rfl rfl rfl (o_no rfl rfl rfl rfl (o_no rfl rfl rfl rfl (o_no rfl rfl rfl rfl (o_no rfl rfl rfl rfl (o_no rfl rfl rfl rfl (o_no rfl rfl rfl rfl (o_no rfl rfl rfl rfl ?_)))))))))
       refine o_no rfl rfl rfl rfl (o_pick_true rfl rfl rfl (o_move rfl rfl (o_no rfl rfl rfl rfl (o_no rfl rfl rfl rfl (o_no rfl rfl rfl rfl (o_no rfl rfl rfl rfl (o_no rfl rfl rfl rfl (o_no rfl rfl rfl rfl (o_no rfl rfl rfl rfl ?_)))))))))
       refine o_no rfl rfl rfl rfl (o_no rfl rfl rfl rfl (o_no rfl rfl rfl rfl (o_no rfl rfl rfl rfl (o_pick_true rfl rfl rfl (l_nil (q_then (c_true rfl (c_seq (c_region ?_)))))))))
       refine o_assign rfl rfl (o_assign rfl rfl (l_nil (q_then (c_ret (q_pass_ret ?_)))))
       refine q_block_ret ?_
       refine q_pass_ret (q_pass_ret ?_)
       refine q_block_ret ?_
       refine q_pass_ret (qT (qT (qT (qT (qT (qT ?_))))))
       exact f_ret (r_two rfl rfl rfl) (⟨rfl, rfl⟩) (fun w S => S)
      · -- h6F
       have h6b := h6
       try simp only [decide_eq_false_iff_not, Int.not_lt, Int.not_le] at h6
       refine o_yes rfl rfl rfl (o_move rfl rfl (o_yes rfl rfl rfl ?_))
       refine o_bin rfl rfl rfl b_eql ?_
       refine o_yes rfl rfl rfl (o_move rfl rfl ?_)
       refine l_split (t := 106) rfl (fun h7 => ?_) (fun h7 => ?_)
       · -- h7T
        have h7b := h7
        try simp only [decide_eq_true_eq] at h7
        refine o_yes rfl rfl rfl (o_move rfl rfl (o_yes rfl rfl rfl ?_))
        refine o_len rfl rfl Try.underlying23 ?_
        refine o_yes rfl rfl rfl ?_
        refine o_bin rfl rfl rfl b_gtr ?_
        refine o_yes rfl rfl rfl (o_move rfl rfl ?_)
        refine l_split (t := 110) rfl (fun h8 => ?_) (fun h8 => ?_)
        · -- h8T
         have h8b := h8
         try simp only [decide_eq_true_eq] at h8
         refine o_no rfl rfl rfl rfl (o_no rfl rfl rfl rfl (o_yes rfl rfl rfl (o_pick_true rfl rfl rfl (o_yes rfl rfl rfl (o_pick_true rfl rfl rfl (o_pick_false rfl rfl rfl (o_move rfl rfl (o_no rfl rfl rfl rfl (o_no rfl rfl rfl rfl ?_)))))))))
         refine o_no rfl rfl rfl rfl (o_no rfl rfl rfl rfl (o_no rfl rfl rfl rfl (o_no rfl rfl rfl rfl (o_no rfl rfl rfl rfl (o_no rfl rfl rfl rfl (o_no rfl rfl rfl rfl (o_no rfl rfl rfl rfl (o_no rfl rfl rfl rfl (o_pick_true rfl rfl rfl ?_)))))))))
         refine l_nil (q_then (c_true rfl (c_seq (c_region (o_assign rfl rfl (o_assign rfl rfl (l_nil (q_then (c_ret ?_)))))))))
         refine q_pass_ret ?_
         refine q_block_ret ?_
         refine q_pass_ret (q_pass_ret ?_)
         refine q_block_ret ?_
         refine q_pass_ret (qT (qT (qT (qT (qT (qT ?_))))))
         exact f_ret (r_two rfl rfl rfl) (⟨rfl, rfl⟩) (fun w S => S)
        · -- h8F
         have h8b := h8
         try simp only [decide_eq_false_iff_not, Int.not_lt, Int.not_le] at h8
         refine o_yes rfl rfl rfl (o_move rfl rfl (o_yes rfl rfl rfl ?_))
         refine o_bin rfl rfl rfl b_eql ?_
         refine o_yes rfl rfl rfl (o_pick_false rfl rfl rfl (o_yes rfl rfl rfl (o_pick_true rfl rfl rfl (o_pick_false rfl rfl rfl (o_move rfl rfl ?_)))))
         refine l_split (t := 116) rfl (fun h9 => ?_) (fun h9 => ?_)
         · -- h9T
          have h9b := h9
          try simp only [decide_eq_true_eq] at h9
          refine o_no rfl rfl rfl rfl (o_no rfl rfl rfl rfl (o_no rfl rfl rfl rfl (o_no rfl rfl rfl rfl (o_no rfl rfl rfl rfl (o_no rfl rfl rfl rfl (o_no rfl rfl rfl rfl (o_no rfl rfl rfl rfl (o_no rfl rfl rfl rfl (o_no rfl rfl rfl rfl ?_)))))))))
          refine o_no rfl rfl rfl rfl (o_pick_true rfl rfl rfl (l_nil (q_then (c_true rfl (c_seq (c_region (o_assign rfl rfl (o_assign rfl rfl (l_nil ?_)))))))))
          refine q_then (c_ret (q_pass_ret ?_))
          refine q_block_ret ?_
          refine q_pass_ret (q_pass_ret ?_)
          refine q_block_ret ?_
          refine q_pass_ret (qT (qT (qT (qT (qT (qT ?_))))))
          exact f_ret (r_two rfl rfl rfl) (⟨rfl, rfl⟩) (fun w S => S)
         · -- h9F
          have h9b := h9
          try simp only [decide_eq_false_iff_not, Int.not_lt, Int.not_le] at h9
          refine o_yes rfl rfl rfl (o_move rfl rfl (o_yes rfl rfl rfl ?_))
          refine o_bin rfl rfl rfl b_eql ?_
          refine o_yes rfl rfl rfl (o_move rfl rfl ?_)
          refine l_split (t := 119) rfl (fun h10 => ?_) (fun h10 => ?_)
          · -- h10T
           have h10b := h10
           try simp only [decide_eq_true_eq] at h10
           refine o_yes rfl rfl rfl (o_move rfl rfl (o_yes rfl rfl rfl ?_))
           refine o_int rfl rfl Try.underlying34 Try.underlying3 (wrap_i64 (by omega) (by omega)) ?_
           refine o_yes rfl rfl rfl (o_move rfl rfl (o_yes rfl rfl rfl ?_))
           refine o_bytesStr (e := e8) rfl rfl rfl Try.underlying23 Try.underlying5 Try.underlying9 (rds_own e8_ok 2 rfl) ?_
           refine o_yes rfl rfl rfl (o_move rfl rfl (o_yes rfl rfl rfl ?_))
           refine o_call rfl cal23 rfl (rdefault_ (k := (bts out60)) (n := n) (by rw [hout60]; have h9 := key_le (t := yse); exact Nat.le_trans h9 (by omega)) (by omega)) ?_
           rintro _ _ ⟨rfl, rfl⟩
           refine o_yes rfl rfl rfl ?_
           refine o_bin rfl rfl rfl b_neq ?_
           refine o_yes rfl rfl rfl (o_pick_true rfl rfl rfl (o_pick_false rfl rfl rfl (l_nil (q_then ?_))))
           refine c_cond rfl (fun h11 => ?_) (fun h11 => ?_)
           · -- h11T
            have h11b := h11
            try simp only [Bool.not_eq_true', decide_eq_false_iff_not, Int.not_lt, Int.not_le] at h11
            refine c_seq (c_region (o_assign rfl rfl (o_assign rfl rfl (l_nil (q_then (c_ret (q_pass_ret ?_)))))))
            refine q_block_ret ?_
            refine q_pass_ret (q_pass_ret ?_)
            refine q_block_ret ?_
            refine q_pass_ret (qT (qT (qT (qT (qT (qT ?_))))))
            exact f_ret (r_two rfl rfl rfl) (⟨rfl, rfl⟩) (fun w S => S)
           · -- h11F
            have h11b := h11
            try simp only [Bool.not_eq_false', decide_eq_true_eq] at h11
            refine c_skip (q_then (c_seq ?_))
            have hxl := hdr.len
            have hgr := good_row (t := yse) hn3 (by rw [← f60, ← f65, ← f70, ← f75]; omega) (by show (byteR (y1 yse)).1.toNat ≤ 1; rw [← f60]; omega) (by show (((numR 0 0 (y3 yse)).1 : Nat) : Int) < n; rw [← f70]; omega) (by show ¬ (byteR (y1 yse)).1.toNat = 0 ∨ ((textR (y2 yse)).1.length = 0 ∧ ¬ (numR 0 0 (y4 yse)).1 = 0); rw [← f60, ← f65, ← f75, ← hout70]; omega) (by show ¬ (numR 0 0 (y4 yse)).1 = 0 ∨ (((numR 0 0 (y3 yse)).1 : Nat) : Int) = dflt (bts (textR yse).1) n; rw [← f70, ← f75, ← hout60]; first | exact .inl (by omega) | exact .inr (by omega))
            have hh3 : (numR 0 0 ys70).1 < 3 := by omega
            have e3 : rdHome yse % 3 = (numR 0 0 ys70).1 := by rw [f70]; exact Nat.mod_eq_of_lt (by show (numR 0 0 (y3 yse)).1 < 3; rw [← f70]; exact hh3)
            refine c_region (o_move rfl rfl (o_nil rfl rfl ?_))
            refine o_fieldAddr (q := ⟨m53, 1, none⟩) rfl rfl Try.underlying54 rfl ti43 rfl ?_
            refine o_load1 rfl rfl Try.underlying43 rfl (rd_mem 3 rfl rfl) ?_
            refine o_len rfl rfl Try.underlying43 ?_
            refine o_bin rfl rfl rfl (b_sub (wrap_i64 (by omega) (by omega))) ?_
            refine o_assign rfl rfl (l_nil (q_then (c_seq (c_seq ?_))))
            refine (Classical.em (0 < xs.length)).elim (fun hne => ?_) (fun hne => ?_)
            · -- hne True
             refine c_fact (p := ∃ ad, ax = some ad) (rds_some (e := e_Row) (xs := xs) (rds_own e_Row_ok 4 rfl) (by intro h0; rw [h0] at hne; simp at hne)) ?_
             rintro ⟨adx, eadx⟩
             refine c_quiet (by kernel_rfl) (by kernel_rfl) ?_
             refine Qt.o_val rfl (v_move rfl rfl) ?_
             refine Qt.o_val rfl (v_bin rfl rfl rfl b_geq) ?_
             refine Qt.l_eq (t := 136) (v' := .bool true) rfl (show _ = Value.bool true from by rw [decide_eq_true (by omega)]) ?_
             refine Qt.o_val rfl (v_move rfl rfl) (Qt.o_yes rfl rfl rfl (Qt.o_val rfl (v_move rfl rfl) (Qt.o_yes rfl rfl rfl (Qt.o_val rfl (v_nil rfl rfl) (Qt.o_yes rfl rfl rfl ?_)))))
             refine Qt.o_val rfl (v_fieldAddr (q := ⟨m53, 1, none⟩) rfl rfl Try.underlying54 rfl ti43 rfl) ?_
             refine Qt.o_yes rfl rfl rfl ?_
             refine Qt.o_val rfl (v_load1 rfl rfl Try.underlying43 rfl (rd_mem 3 rfl rfl)) ?_
             refine Qt.o_yes rfl rfl rfl (Qt.o_val rfl (v_move rfl rfl) (Qt.o_yes rfl rfl rfl ?_))
             refine Qt.o_val rfl (v_indexK e_Row_ok eadx rfl rfl rfl Try.underlying43 (by omega) (by omega)) ?_
             obtain ⟨x143, hx143⟩ : ∃ x, (xs)[(((xs).length : Int) - 1).toNat]? = some x := ⟨_, List.getElem?_eq_getElem (by omega)⟩
             refine Qt.o_yes rfl rfl rfl ?_
             refine Qt.o_val rfl (v_fieldAddr rfl rfl Try.underlying49 rfl ti9 (Addr.add_add' _ _ _)) ?_
             refine Qt.o_yes rfl rfl rfl ?_
             refine Qt.o_val rfl (v_load1 rfl rfl Try.underlying9 rfl (rd_sl e_Row_ok eadx (rds_own e_Row_ok 4 rfl) hx143 rfl)) ?_
             refine Qt.o_yes rfl rfl rfl (Qt.o_val rfl (v_move rfl rfl) (Qt.o_yes rfl rfl rfl ?_))
             refine Qt.o_val rfl (v_bytesStr (e := e8) rfl rfl rfl Try.underlying23 Try.underlying5 Try.underlying9 (rds_own e8_ok 2 rfl)) ?_
             refine Qt.o_yes rfl rfl rfl ?_
             refine Qt.o_val rfl (v_bin rfl rfl rfl b_sgeq) ?_
             refine Qt.o_val rfl (v_pick_true rfl rfl rfl) ?_
             refine Qt.l_nil ?_
             refine q_then ?_
             refine c_cond rfl (fun h12 => ?_) (fun h12 => ?_)
             · -- h12T
              have h12b := h12
              try simp only [decide_eq_true_eq, decide_eq_false_iff_not, Bool.not_eq_eq_eq_not, Bool.not_true, Bool.not_false, Bool.not_eq_true', Bool.not_eq_false', Int.not_lt, Int.not_le, Bool.or_eq_true, Bool.and_eq_true] at h12
              refine c_seq (c_region (o_assign rfl rfl (o_assign rfl rfl (l_nil (q_then (c_ret (q_pass_ret ?_)))))))
              refine q_block_ret ?_
              refine q_pass_ret (q_pass_ret ?_)
              refine q_block_ret ?_
              refine q_pass_ret (qT (qT (qT (qT (qT (qT ?_))))))
              exact f_ret (r_two rfl rfl rfl) (⟨rfl, rfl⟩) (fun w S => S)
             · -- h12F
              have h12b := h12
              try simp only [decide_eq_true_eq, decide_eq_false_iff_not, Bool.not_eq_eq_eq_not, Bool.not_true, Bool.not_false, Bool.not_eq_true', Bool.not_eq_false', Int.not_lt, Int.not_le, Bool.or_eq_true, Bool.and_eq_true] at h12
              refine c_skip (q_then ?_)
              have hkP : ∀ p ∈ xs, strlt p.f_key (bts out60) := last_all hdr.srt (show xs[((xs.length : Int) - 1).toNat]? = some x143 from hx143) (by omega) (show slt x143.f_key (bts out60) = true by first | assumption | simp_all)
              refine cP p4 (cP p4 (cP p5 (cP p5 (cP p5 (cP p5 (cP p3 (cP p3 (cP p3 (cP p3 ?_)))))))))
              refine cP p5 (cP p5 ?_)
              refine c_heldF [blk m53 (.cells #[.int .i64 n, .slice ax (xs).length cx] 54 (0, 0)), row e_Row.T e_Row.sz ax (xs).length cx (flat e_Row xs)] (blk ke (.cells #[.slice a (bs).length c, .int .i64 (i80 : Int)] 92 (0, 0)) :: row e8.T e8.sz a70 (out70).length c70 (flat e8 out70) :: row e8.T e8.sz a60 (out60).length c60 (flat e8 out60) :: vals xs :: F) (by kernel_rfl) ?_
              refine h_take 0 rfl rfl (by kernel_rfl) (by kernel_rfl) (by kernel_rfl) (fun L0 => v_move rfl rfl) ?_
              refine h_take 1 rfl rfl (by kernel_rfl) (by kernel_rfl) (by kernel_rfl) (fun L0 => v_move rfl rfl) ?_
              refine h_take 2 rfl rfl (by kernel_rfl) (by kernel_rfl) (by kernel_rfl) (fun L0 => v_nil rfl rfl) ?_
              refine h_take 3 rfl rfl (by kernel_rfl) (by kernel_rfl) (by kernel_rfl) (fun L0 => v_fieldAddr (q := ⟨m53, 1, none⟩) rfl rfl Try.underlying54 rfl ti43 rfl) ?_
              refine h_take 5 rfl rfl (by kernel_rfl) (by kernel_rfl) (by kernel_rfl) (fun L0 => v_move rfl rfl) ?_
              refine h_take 6 rfl rfl (by kernel_rfl) (by kernel_rfl) (by kernel_rfl) (fun L0 => v_bytesStr (e := e8) rfl rfl rfl Try.underlying23 Try.underlying5 Try.underlying9 (rds_own e8_ok 2 rfl)) ?_
              refine h_take 7 rfl rfl (by kernel_rfl) (by kernel_rfl) (by kernel_rfl) (fun L0 => v_move rfl rfl) ?_
              refine h_take 8 rfl rfl (by kernel_rfl) (by kernel_rfl) (by kernel_rfl) (fun L0 => v_bin rfl rfl rfl b_eql) ?_
              refine h_take 9 rfl rfl (by kernel_rfl) (by kernel_rfl) (by kernel_rfl) (fun L0 => v_move rfl rfl) ?_
              refine h_take 10 rfl rfl (by kernel_rfl) (by kernel_rfl) (by kernel_rfl) (fun L0 => v_move rfl rfl) ?_
              refine h_take 11 rfl rfl (by kernel_rfl) (by kernel_rfl) (by kernel_rfl) (fun L0 => v_int rfl rfl Try.underlying34 Try.underlying3 (wrap_i64 (by omega) (by omega))) ?_
              refine h_take 12 rfl rfl (by kernel_rfl) (by kernel_rfl) (by kernel_rfl) (fun L0 => v_move rfl rfl) ?_
              refine h_take 13 rfl rfl (by kernel_rfl) (by kernel_rfl) (by kernel_rfl) (fun L0 => v_build rfl sp36 ti36 rfl ((fill_cons (cells' := [.bool (decide (((byteR ys60).1.toNat : Int) = 1)), .slice none 0 0, .int .i64 0, .int .u64 0]) rfl rfl rfl rfl (fill_cons (cells' := [.bool (decide (((byteR ys60).1.toNat : Int) = 1)), .slice a70 (out70).length c70, .int .i64 0, .int .u64 0]) rfl rfl rfl rfl (fill_cons (cells' := [.bool (decide (((byteR ys60).1.toNat : Int) = 1)), .slice a70 (out70).length c70, .int .i64 ((numR 0 0 ys70).1 : Int), .int .u64 0]) rfl rfl rfl rfl (fill_cons (cells' := [.bool (decide (((byteR ys60).1.toNat : Int) = 1)), .slice a70 (out70).length c70, .int .i64 ((numR 0 0 ys70).1 : Int), .int .u64 ((numR 0 0 ys75).1 : Int)]) rfl rfl rfl rfl fill_nil)))))) ?_
              refine h_take 14 rfl rfl (by kernel_rfl) (by kernel_rfl) (by kernel_rfl) (fun L0 => v_build rfl sp49 ti49 rfl ((fill_cons (cells' := [.string (bts out60), .bool false, .slice none 0 0, .int .i64 0, .int .u64 0]) rfl rfl rfl rfl (fill_cons (cells' := [.string (bts out60), .bool (decide (((byteR ys60).1.toNat : Int) = 1)), .slice a70 (out70).length c70, .int .i64 ((numR 0 0 ys70).1 : Int), .int .u64 ((numR 0 0 ys75).1 : Int)]) rfl rfl rfl rfl fill_nil)))) ?_
              refine h_many (is := [4, 15]) (by kernel_rfl) (by decide) (forall_cons ⟨_, rfl, ?_⟩ (forall_cons ⟨_, rfl, ?_⟩ forall_nil))
              · -- 4 comes first
               refine l_in2 ?_
               refine o_load1 rfl rfl Try.underlying43 rfl (rd_mem 0 rfl rfl) ?_
               refine l_nil (q_out2 (h_next ?_))
               refine h_one 15 rfl (by kernel_rfl) ?_
               refine l_in2 ?_
               refine o_lit e_Row_ok rfl Try.underlying43 rfl rfl rfl (lit_ok rfl) [(⟨bts out60, ⟨decide (((byteR ys60).1.toNat : Int) = 1), ⟨a70, out70, c70⟩, ((numR 0 0 ys70).1 : Int), ((numR 0 0 ys75).1 : Int)⟩⟩ : ItA)] rfl rfl fun a165 => ?_
               refine l_nil (q_out3 (h_next ?_))
               refine h_one 16 rfl (by kernel_rfl) ?_
               refine l_in3 (l_f2 ?_)
               refine o_append e_Row_ok rfl rfl rfl Try.underlying43 (rds_own e_Row_ok 1 rfl) (by show (_ + _) * 64 ≤ _; (try simp only [List.length_append, List.length_cons, List.length_nil]); omega) (by (try simp only [List.length_append, List.length_cons, List.length_nil]); omega) fun a166 c166 => ?_
               refine l_f1 ?_
               refine l_drop ?_
               refine l_nil (q_out2 (h_next ?_))
               refine h_take 17 rfl rfl (by kernel_rfl) (by kernel_rfl) (by kernel_rfl) (fun L0 => v_nil rfl rfl) ?_
               refine h_take 18 rfl rfl (by kernel_rfl) (by kernel_rfl) (by kernel_rfl) (fun L0 => v_fieldAddr (q := ⟨m53, 1, none⟩) rfl rfl Try.underlying54 rfl ti43 rfl) ?_
               refine h_one 19 rfl (by kernel_rfl) ?_
               refine l_in2 (l_f1 ?_)
               refine o_store1 rfl rfl rfl ti43 rfl rfl ?_
               refine l_nil (q_out2 (h_next ?_))
               refine h_done (by kernel_rfl) ?_
               refine q_in2 (q_block (q_then (c_region (o_move rfl rfl ?_))))
               refine o_bin rfl rfl rfl (b_sub (show IntKind.u64.wrap ((m : Int) - 1) = ((m - 1 : Nat) : Int) from by rw [wrap_u64 (by omega) (by omega)]; omega)) ?_
               refine o_assign rfl rfl (l_nil ?_)
               have hxP : proj (⟨bts out60, ⟨decide (((byteR ys60).1.toNat : Int) = 1), ⟨a70, out70, c70⟩, ((numR 0 0 ys70).1 : Int), ((numR 0 0 ys75).1 : Int)⟩⟩ : ItA) = rowP yse := by unfold rowP rdKey rdVal rdCnt rdHas; rw [e3, ← f60, ← f65, ← f75, ← u8dec, ← hout60, ← hout70]; rfl
               refine qP p4 (qP p3 (qP p3 (qP p3 (qP p5 (qP p5 ?_)))))
               refine q_conv (L' := vals (xs ++ [(⟨bts out60, ⟨decide (((byteR ys60).1.toNat : Int) = 1), ⟨a70, out70, c70⟩, ((numR 0 0 ys70).1 : Int), ((numR 0 0 ys75).1 : Int)⟩⟩ : ItA)]) :: _) (fun w S => Sat.vals_app (x := (⟨bts out60, ⟨decide (((byteR ys60).1.toNat : Int) = 1), ⟨a70, out70, c70⟩, ((numR 0 0 ys70).1 : Int), ((numR 0 0 ys75).1 : Int)⟩⟩ : ItA)) S) ?_
               refine qP p4 (qT (qP p3 (qP p1 (qP p3 (qP p3 ?_)))))
               exact q_round (m - 1, i80, ys80, xs ++ [(⟨bts out60, ⟨decide (((byteR ys60).1.toNat : Int) = 1), ⟨a70, out70, c70⟩, ((numR 0 0 ys70).1 : Int), ((numR 0 0 ys75).1 : Int)⟩⟩ : ItA)], a166, c166) (by exact ⟨by dsimp only; omega, he80, hdr.on (by omega) hyl hgr hxP hkP f80⟩) (by (try dsimp only); omega) ⟨vr, vr, vr, vr, trivial⟩ (fun w S => S)
              · -- 15 comes first
               refine l_in2 ?_
               refine o_lit e_Row_ok rfl Try.underlying43 rfl rfl rfl (lit_ok rfl) [(⟨bts out60, ⟨decide (((byteR ys60).1.toNat : Int) = 1), ⟨a70, out70, c70⟩, ((numR 0 0 ys70).1 : Int), ((numR 0 0 ys75).1 : Int)⟩⟩ : ItA)] rfl rfl fun a165 => ?_
               refine l_nil (q_out3 (h_next ?_))
               refine h_one 4 rfl (by kernel_rfl) ?_
               refine l_in3 ?_
               refine o_load1 rfl rfl Try.underlying43 rfl (rd_mem 1 rfl rfl) ?_
               refine l_nil (q_out3 (h_next ?_))
               refine h_one 16 rfl (by kernel_rfl) ?_
               refine l_in3 (l_f2 ?_)
               refine o_append e_Row_ok rfl rfl rfl Try.underlying43 (rds_own e_Row_ok 1 rfl) (by show (_ + _) * 64 ≤ _; (try simp only [List.length_append, List.length_cons, List.length_nil]); omega) (by (try simp only [List.length_append, List.length_cons, List.length_nil]); omega) fun a166 c166 => ?_
               refine l_f1 ?_
               refine l_drop ?_
               refine l_nil (q_out2 (h_next ?_))
               refine h_take 17 rfl rfl (by kernel_rfl) (by kernel_rfl) (by kernel_rfl) (fun L0 => v_nil rfl rfl) ?_
               refine h_take 18 rfl rfl (by kernel_rfl) (by kernel_rfl) (by kernel_rfl) (fun L0 => v_fieldAddr (q := ⟨m53, 1, none⟩) rfl rfl Try.underlying54 rfl ti43 rfl) ?_
               refine h_one 19 rfl (by kernel_rfl) ?_
               refine l_in2 (l_f1 ?_)
               refine o_store1 rfl rfl rfl ti43 rfl rfl ?_
               refine l_nil (q_out2 (h_next ?_))
               refine h_done (by kernel_rfl) ?_
               refine q_in2 (q_block (q_then (c_region (o_move rfl rfl ?_))))
               refine o_bin rfl rfl rfl (b_sub (show IntKind.u64.wrap ((m : Int) - 1) = ((m - 1 : Nat) : Int) from by rw [wrap_u64 (by omega) (by omega)]; omega)) ?_
               refine o_assign rfl rfl (l_nil ?_)
               have hxP : proj (⟨bts out60, ⟨decide (((byteR ys60).1.toNat : Int) = 1), ⟨a70, out70, c70⟩, ((numR 0 0 ys70).1 : Int), ((numR 0 0 ys75).1 : Int)⟩⟩ : ItA) = rowP yse := by unfold rowP rdKey rdVal rdCnt rdHas; rw [e3, ← f60, ← f65, ← f75, ← u8dec, ← hout60, ← hout70]; rfl
               refine qP p4 (qP p3 (qP p3 (qP p3 (qP p5 (qP p5 ?_)))))
               refine q_conv (L' := vals (xs ++ [(⟨bts out60, ⟨decide (((byteR ys60).1.toNat : Int) = 1), ⟨a70, out70, c70⟩, ((numR 0 0 ys70).1 : Int), ((numR 0 0 ys75).1 : Int)⟩⟩ : ItA)]) :: _) (fun w S => Sat.vals_app (x := (⟨bts out60, ⟨decide (((byteR ys60).1.toNat : Int) = 1), ⟨a70, out70, c70⟩, ((numR 0 0 ys70).1 : Int), ((numR 0 0 ys75).1 : Int)⟩⟩ : ItA)) S) ?_
               refine qP p4 (qT (qP p3 (qP p1 (qP p3 (qP p3 ?_)))))
               exact q_round (m - 1, i80, ys80, xs ++ [(⟨bts out60, ⟨decide (((byteR ys60).1.toNat : Int) = 1), ⟨a70, out70, c70⟩, ((numR 0 0 ys70).1 : Int), ((numR 0 0 ys75).1 : Int)⟩⟩ : ItA)], a166, c166) (by exact ⟨by dsimp only; omega, he80, hdr.on (by omega) hyl hgr hxP hkP f80⟩) (by (try dsimp only); omega) ⟨vr, vr, vr, vr, trivial⟩ (fun w S => S)
            · -- hne False
             refine c_quiet (by kernel_rfl) (by kernel_rfl) ?_
             refine Qt.o_val rfl (v_move rfl rfl) ?_
             refine Qt.o_val rfl (v_bin rfl rfl rfl b_geq) ?_
             refine Qt.l_eq (t := 136) (v' := .bool false) rfl (show _ = Value.bool false from by rw [decide_eq_false (by omega)]) ?_
             refine Qt.o_val rfl (v_move rfl rfl) ?_
             refine Qt.o_no rfl rfl rfl rfl ?_
             refine Qt.o_no rfl rfl rfl rfl ?_
             refine Qt.o_no rfl rfl rfl rfl ?_
             refine Qt.o_no rfl rfl rfl rfl ?_
             refine Qt.o_no rfl rfl rfl rfl ?_
             refine Qt.o_no rfl rfl rfl rfl ?_
             refine Qt.o_no rfl rfl rfl rfl ?_
             refine Qt.o_no rfl rfl rfl rfl ?_
             refine Qt.o_no rfl rfl rfl rfl ?_
             refine Qt.o_no rfl rfl rfl rfl ?_
             refine Qt.o_no rfl rfl rfl rfl ?_
             refine Qt.o_val rfl (v_pick_false rfl rfl rfl) ?_
             refine Qt.l_nil ?_
             refine q_then (c_false rfl (c_skip (q_then ?_)))
             have hkP : ∀ p ∈ xs, strlt p.f_key (bts out60) := fun p hp => by have h9 := List.length_pos_of_mem hp; omega
             refine cP p4 (cP p4 (cP p5 (cP p5 (cP p5 (cP p5 (cP p3 (cP p3 (cP p3 (cP p3 ?_)))))))))
             refine cP p5 (cP p5 ?_)
             refine c_heldF [blk m53 (.cells #[.int .i64 n, .slice ax (xs).length cx] 54 (0, 0)), row e_Row.T e_Row.sz ax (xs).length cx (flat e_Row xs)] (blk ke (.cells #[.slice a (bs).length c, .int .i64 (i80 : Int)] 92 (0, 0)) :: row e8.T e8.sz a70 (out70).length c70 (flat e8 out70) :: row e8.T e8.sz a60 (out60).length c60 (flat e8 out60) :: vals xs :: F) (by kernel_rfl) ?_
             refine h_take 0 rfl rfl (by kernel_rfl) (by kernel_rfl) (by kernel_rfl) (fun L0 => v_move rfl rfl) ?_
             refine h_take 1 rfl rfl (by kernel_rfl) (by kernel_rfl) (by kernel_rfl) (fun L0 => v_move rfl rfl) ?_
             refine h_take 2 rfl rfl (by kernel_rfl) (by kernel_rfl) (by kernel_rfl) (fun L0 => v_nil rfl rfl) ?_
             refine h_take 3 rfl rfl (by kernel_rfl) (by kernel_rfl) (by kernel_rfl) (fun L0 => v_fieldAddr (q := ⟨m53, 1, none⟩) rfl rfl Try.underlying54 rfl ti43 rfl) ?_
             refine h_take 5 rfl rfl (by kernel_rfl) (by kernel_rfl) (by kernel_rfl) (fun L0 => v_move rfl rfl) ?_
             refine h_take 6 rfl rfl (by kernel_rfl) (by kernel_rfl) (by kernel_rfl) (fun L0 => v_bytesStr (e := e8) rfl rfl rfl Try.underlying23 Try.underlying5 Try.underlying9 (rds_own e8_ok 2 rfl)) ?_
             refine h_take 7 rfl rfl (by kernel_rfl) (by kernel_rfl) (by kernel_rfl) (fun L0 => v_move rfl rfl) ?_
             refine h_take 8 rfl rfl (by kernel_rfl) (by kernel_rfl) (by kernel_rfl) (fun L0 => v_bin rfl rfl rfl b_eql) ?_
             refine h_take 9 rfl rfl (by kernel_rfl) (by kernel_rfl) (by kernel_rfl) (fun L0 => v_move rfl rfl) ?_
             refine h_take 10 rfl rfl (by kernel_rfl) (by kernel_rfl) (by kernel_rfl) (fun L0 => v_move rfl rfl) ?_
             refine h_take 11 rfl rfl (by kernel_rfl) (by kernel_rfl) (by kernel_rfl) (fun L0 => v_int rfl rfl Try.underlying34 Try.underlying3 (wrap_i64 (by omega) (by omega))) ?_
             refine h_take 12 rfl rfl (by kernel_rfl) (by kernel_rfl) (by kernel_rfl) (fun L0 => v_move rfl rfl) ?_
             refine h_take 13 rfl rfl (by kernel_rfl) (by kernel_rfl) (by kernel_rfl) (fun L0 => v_build rfl sp36 ti36 rfl ((fill_cons (cells' := [.bool (decide (((byteR ys60).1.toNat : Int) = 1)), .slice none 0 0, .int .i64 0, .int .u64 0]) rfl rfl rfl rfl (fill_cons (cells' := [.bool (decide (((byteR ys60).1.toNat : Int) = 1)), .slice a70 (out70).length c70, .int .i64 0, .int .u64 0]) rfl rfl rfl rfl (fill_cons (cells' := [.bool (decide (((byteR ys60).1.toNat : Int) = 1)), .slice a70 (out70).length c70, .int .i64 ((numR 0 0 ys70).1 : Int), .int .u64 0]) rfl rfl rfl rfl (fill_cons (cells' := [.bool (decide (((byteR ys60).1.toNat : Int) = 1)), .slice a70 (out70).length c70, .int .i64 ((numR 0 0 ys70).1 : Int), .int .u64 ((numR 0 0 ys75).1 : Int)]) rfl rfl rfl rfl fill_nil)))))) ?_
             refine h_take 14 rfl rfl (by kernel_rfl) (by kernel_rfl) (by kernel_rfl) (fun L0 => v_build rfl sp49 ti49 rfl ((fill_cons (cells' := [.string (bts out60), .bool false, .slice none 0 0, .int .i64 0, .int .u64 0]) rfl rfl rfl rfl (fill_cons (cells' := [.string (bts out60), .bool (decide (((byteR ys60).1.toNat : Int) = 1)), .slice a70 (out70).length c70, .int .i64 ((numR 0 0 ys70).1 : Int), .int .u64 ((numR 0 0 ys75).1 : Int)]) rfl rfl rfl rfl fill_nil)))) ?_
             refine h_many (is := [4, 15]) (by kernel_rfl) (by decide) (forall_cons ⟨_, rfl, ?_⟩ (forall_cons ⟨_, rfl, ?_⟩ forall_nil))
             · -- 4 comes first
              refine l_in2 ?_
              refine o_load1 rfl rfl Try.underlying43 rfl (rd_mem 0 rfl rfl) ?_
              refine l_nil (q_out2 (h_next ?_))
              refine h_one 15 rfl (by kernel_rfl) ?_
              refine l_in2 ?_
              refine o_lit e_Row_ok rfl Try.underlying43 rfl rfl rfl (lit_ok rfl) [(⟨bts out60, ⟨decide (((byteR ys60).1.toNat : Int) = 1), ⟨a70, out70, c70⟩, ((numR 0 0 ys70).1 : Int), ((numR 0 0 ys75).1 : Int)⟩⟩ : ItA)] rfl rfl fun a165 => ?_
              refine l_nil (q_out3 (h_next ?_))
              refine h_one 16 rfl (by kernel_rfl) ?_
              refine l_in3 (l_f2 ?_)
              refine o_append e_Row_ok rfl rfl rfl Try.underlying43 (rds_own e_Row_ok 1 rfl) (by show (_ + _) * 64 ≤ _; (try simp only [List.length_append, List.length_cons, List.length_nil]); omega) (by (try simp only [List.length_append, List.length_cons, List.length_nil]); omega) fun a166 c166 => ?_
              refine l_f1 ?_
              refine l_drop ?_
              refine l_nil (q_out2 (h_next ?_))
              refine h_take 17 rfl rfl (by kernel_rfl) (by kernel_rfl) (by kernel_rfl) (fun L0 => v_nil rfl rfl) ?_
              refine h_take 18 rfl rfl (by kernel_rfl) (by kernel_rfl) (by kernel_rfl) (fun L0 => v_fieldAddr (q := ⟨m53, 1, none⟩) rfl rfl Try.underlying54 rfl ti43 rfl) ?_
              refine h_one 19 rfl (by kernel_rfl) ?_
              refine l_in2 (l_f1 ?_)
              refine o_store1 rfl rfl rfl ti43 rfl rfl ?_
              refine l_nil (q_out2 (h_next ?_))
              refine h_done (by kernel_rfl) ?_
              refine q_in2 (q_block (q_then (c_region (o_move rfl rfl ?_))))
              refine o_bin rfl rfl rfl (b_sub (show IntKind.u64.wrap ((m : Int) - 1) = ((m - 1 : Nat) : Int) from by rw [wrap_u64 (by omega) (by omega)]; omega)) ?_
              refine o_assign rfl rfl (l_nil ?_)
              have hxP : proj (⟨bts out60, ⟨decide (((byteR ys60).1.toNat : Int) = 1), ⟨a70, out70, c70⟩, ((numR 0 0 ys70).1 : Int), ((numR 0 0 ys75).1 : Int)⟩⟩ : ItA) = rowP yse := by unfold rowP rdKey rdVal rdCnt rdHas; rw [e3, ← f60, ← f65, ← f75, ← u8dec, ← hout60, ← hout70]; rfl
              refine qP p4 (qP p3 (qP p3 (qP p3 (qP p5 (qP p5 ?_)))))
              refine q_conv (L' := vals (xs ++ [(⟨bts out60, ⟨decide (((byteR ys60).1.toNat : Int) = 1), ⟨a70, out70, c70⟩, ((numR 0 0 ys70).1 : Int), ((numR 0 0 ys75).1 : Int)⟩⟩ : ItA)]) :: _) (fun w S => Sat.vals_app (x := (⟨bts out60, ⟨decide (((byteR ys60).1.toNat : Int) = 1), ⟨a70, out70, c70⟩, ((numR 0 0 ys70).1 : Int), ((numR 0 0 ys75).1 : Int)⟩⟩ : ItA)) S) ?_
              refine qP p4 (qT (qP p3 (qP p1 (qP p3 (qP p3 ?_)))))
              exact q_round (m - 1, i80, ys80, xs ++ [(⟨bts out60, ⟨decide (((byteR ys60).1.toNat : Int) = 1), ⟨a70, out70, c70⟩, ((numR 0 0 ys70).1 : Int), ((numR 0 0 ys75).1 : Int)⟩⟩ : ItA)], a166, c166) (by exact ⟨by dsimp only; omega, he80, hdr.on (by omega) hyl hgr hxP hkP f80⟩) (by (try dsimp only); omega) ⟨vr, vr, vr, vr, trivial⟩ (fun w S => S)
             · -- 15 comes first
              refine l_in2 ?_
              refine o_lit e_Row_ok rfl Try.underlying43 rfl rfl rfl (lit_ok rfl) [(⟨bts out60, ⟨decide (((byteR ys60).1.toNat : Int) = 1), ⟨a70, out70, c70⟩, ((numR 0 0 ys70).1 : Int), ((numR 0 0 ys75).1 : Int)⟩⟩ : ItA)] rfl rfl fun a165 => ?_
              refine l_nil (q_out3 (h_next ?_))
              refine h_one 4 rfl (by kernel_rfl) ?_
              refine l_in3 ?_
              refine o_load1 rfl rfl Try.underlying43 rfl (rd_mem 1 rfl rfl) ?_
              refine l_nil (q_out3 (h_next ?_))
              refine h_one 16 rfl (by kernel_rfl) ?_
              refine l_in3 (l_f2 ?_)
              refine o_append e_Row_ok rfl rfl rfl Try.underlying43 (rds_own e_Row_ok 1 rfl) (by show (_ + _) * 64 ≤ _; (try simp only [List.length_append, List.length_cons, List.length_nil]); omega) (by (try simp only [List.length_append, List.length_cons, List.length_nil]); omega) fun a166 c166 => ?_
              refine l_f1 ?_
              refine l_drop ?_
              refine l_nil (q_out2 (h_next ?_))
              refine h_take 17 rfl rfl (by kernel_rfl) (by kernel_rfl) (by kernel_rfl) (fun L0 => v_nil rfl rfl) ?_
              refine h_take 18 rfl rfl (by kernel_rfl) (by kernel_rfl) (by kernel_rfl) (fun L0 => v_fieldAddr (q := ⟨m53, 1, none⟩) rfl rfl Try.underlying54 rfl ti43 rfl) ?_
              refine h_one 19 rfl (by kernel_rfl) ?_
              refine l_in2 (l_f1 ?_)
              refine o_store1 rfl rfl rfl ti43 rfl rfl ?_
              refine l_nil (q_out2 (h_next ?_))
              refine h_done (by kernel_rfl) ?_
              refine q_in2 (q_block (q_then (c_region (o_move rfl rfl ?_))))
              refine o_bin rfl rfl rfl (b_sub (show IntKind.u64.wrap ((m : Int) - 1) = ((m - 1 : Nat) : Int) from by rw [wrap_u64 (by omega) (by omega)]; omega)) ?_
              refine o_assign rfl rfl (l_nil ?_)
              have hxP : proj (⟨bts out60, ⟨decide (((byteR ys60).1.toNat : Int) = 1), ⟨a70, out70, c70⟩, ((numR 0 0 ys70).1 : Int), ((numR 0 0 ys75).1 : Int)⟩⟩ : ItA) = rowP yse := by unfold rowP rdKey rdVal rdCnt rdHas; rw [e3, ← f60, ← f65, ← f75, ← u8dec, ← hout60, ← hout70]; rfl
              refine qP p4 (qP p3 (qP p3 (qP p3 (qP p5 (qP p5 ?_)))))
              refine q_conv (L' := vals (xs ++ [(⟨bts out60, ⟨decide (((byteR ys60).1.toNat : Int) = 1), ⟨a70, out70, c70⟩, ((numR 0 0 ys70).1 : Int), ((numR 0 0 ys75).1 : Int)⟩⟩ : ItA)]) :: _) (fun w S => Sat.vals_app (x := (⟨bts out60, ⟨decide (((byteR ys60).1.toNat : Int) = 1), ⟨a70, out70, c70⟩, ((numR 0 0 ys70).1 : Int), ((numR 0 0 ys75).1 : Int)⟩⟩ : ItA)) S) ?_
              refine qP p4 (qT (qP p3 (qP p1 (qP p3 (qP p3 ?_)))))
              exact q_round (m - 1, i80, ys80, xs ++ [(⟨bts out60, ⟨decide (((byteR ys60).1.toNat : Int) = 1), ⟨a70, out70, c70⟩, ((numR 0 0 ys70).1 : Int), ((numR 0 0 ys75).1 : Int)⟩⟩ : ItA)], a166, c166) (by exact ⟨by dsimp only; omega, he80, hdr.on (by omega) hyl hgr hxP hkP f80⟩) (by (try dsimp only); omega) ⟨vr, vr, vr, vr, trivial⟩ (fun w S => S)
          · -- h10F
           have h10b := h10
           try simp only [decide_eq_false_iff_not, Int.not_lt, Int.not_le] at h10
           refine o_no rfl rfl rfl rfl (o_no rfl rfl rfl rfl (o_no rfl rfl rfl rfl (o_no rfl rfl rfl rfl (o_no rfl rfl rfl rfl (o_no rfl rfl rfl rfl (o_no rfl rfl rfl rfl (o_yes rfl rfl rfl (o_pick_false rfl rfl rfl (o_pick_false rfl rfl rfl ?_)))))))))
           refine l_nil (q_then (c_false rfl (c_skip (q_then (c_seq ?_)))))
           have hxl := hdr.len
           have hgr := good_row (t := yse) hn3 (by rw [← f60, ← f65, ← f70, ← f75]; omega) (by show (byteR (y1 yse)).1.toNat ≤ 1; rw [← f60]; omega) (by show (((numR 0 0 (y3 yse)).1 : Nat) : Int) < n; rw [← f70]; omega) (by show ¬ (byteR (y1 yse)).1.toNat = 0 ∨ ((textR (y2 yse)).1.length = 0 ∧ ¬ (numR 0 0 (y4 yse)).1 = 0); rw [← f60, ← f65, ← f75, ← hout70]; omega) (by show ¬ (numR 0 0 (y4 yse)).1 = 0 ∨ (((numR 0 0 (y3 yse)).1 : Nat) : Int) = dflt (bts (textR yse).1) n; rw [← f70, ← f75, ← hout60]; first | exact .inl (by omega) | exact .inr (by omega))
           have hh3 : (numR 0 0 ys70).1 < 3 := by omega
           have e3 : rdHome yse % 3 = (numR 0 0 ys70).1 := by rw [f70]; exact Nat.mod_eq_of_lt (by show (numR 0 0 (y3 yse)).1 < 3; rw [← f70]; exact hh3)
           refine c_region (o_move rfl rfl (o_nil rfl rfl ?_))
           refine o_fieldAddr (q := ⟨m53, 1, none⟩) rfl rfl Try.underlying54 rfl ti43 rfl ?_
           refine o_load1 rfl rfl Try.underlying43 rfl (rd_mem 3 rfl rfl) ?_
           refine o_len rfl rfl Try.underlying43 ?_
           refine o_bin rfl rfl rfl (b_sub (wrap_i64 (by omega) (by omega))) ?_
           refine o_assign rfl rfl (l_nil (q_then (c_seq (c_seq ?_))))
           refine (Classical.em (0 < xs.length)).elim (fun hne => ?_) (fun hne => ?_)
           · -- hne True
            refine c_fact (p := ∃ ad, ax = some ad) (rds_some (e := e_Row) (xs := xs) (rds_own e_Row_ok 4 rfl) (by intro h0; rw [h0] at hne; simp at hne)) ?_
            rintro ⟨adx, eadx⟩
            refine c_quiet (by kernel_rfl) (by kernel_rfl) ?_
            refine Qt.o_val rfl (v_move rfl rfl) ?_
            refine Qt.o_val rfl (v_bin rfl rfl rfl b_geq) ?_
            refine Qt.l_eq (t := 136) (v' := .bool true) rfl (show _ = Value.bool true from by rw [decide_eq_true (by omega)]) ?_
            refine Qt.o_val rfl (v_move rfl rfl) (Qt.o_yes rfl rfl rfl (Qt.o_val rfl (v_move rfl rfl) (Qt.o_yes rfl rfl rfl (Qt.o_val rfl (v_nil rfl rfl) (Qt.o_yes rfl rfl rfl ?_)))))
            refine Qt.o_val rfl (v_fieldAddr (q := ⟨m53, 1, none⟩) rfl rfl Try.underlying54 rfl ti43 rfl) ?_
            refine Qt.o_yes rfl rfl rfl ?_
            refine Qt.o_val rfl (v_load1 rfl rfl Try.underlying43 rfl (rd_mem 3 rfl rfl)) ?_
            refine Qt.o_yes rfl rfl rfl (Qt.o_val rfl (v_move rfl rfl) (Qt.o_yes rfl rfl rfl ?_))
            refine Qt.o_val rfl (v_indexK e_Row_ok eadx rfl rfl rfl Try.underlying43 (by omega) (by omega)) ?_
            obtain ⟨x143, hx143⟩ : ∃ x, (xs)[(((xs).length : Int) - 1).toNat]? = some x := ⟨_, List.getElem?_eq_getElem (by omega)⟩
            refine Qt.o_yes rfl rfl rfl ?_
            refine Qt.o_val rfl (v_fieldAddr rfl rfl Try.underlying49 rfl ti9 (Addr.add_add' _ _ _)) ?_
            refine Qt.o_yes rfl rfl rfl ?_
            refine Qt.o_val rfl (v_load1 rfl rfl Try.underlying9 rfl (rd_sl e_Row_ok eadx (rds_own e_Row_ok 4 rfl) hx143 rfl)) ?_
            refine Qt.o_yes rfl rfl rfl (Qt.o_val rfl (v_move rfl rfl) (Qt.o_yes rfl rfl rfl ?_))
            refine Qt.o_val rfl (v_bytesStr (e := e8) rfl rfl rfl Try.underlying23 Try.underlying5 Try.underlying9 (rds_own e8_ok 2 rfl)) ?_
            refine Qt.o_yes rfl rfl rfl ?_
            refine Qt.o_val rfl (v_bin rfl rfl rfl b_sgeq) ?_
            refine Qt.o_val rfl (v_pick_true rfl rfl rfl) ?_
            refine Qt.l_nil ?_
            refine q_then ?_
            refine c_cond rfl (fun h13 => ?_) (fun h13 => ?_)
            · -- h13T
             have h13b := h13
             try simp only [decide_eq_true_eq, decide_eq_false_iff_not, Bool.not_eq_eq_eq_not, Bool.not_true, Bool.not_false, Bool.not_eq_true', Bool.not_eq_false', Int.not_lt, Int.not_le, Bool.or_eq_true, Bool.and_eq_true] at h13
             refine c_seq (c_region (o_assign rfl rfl (o_assign rfl rfl (l_nil (q_then (c_ret (q_pass_ret ?_)))))))
             refine q_block_ret ?_
             refine q_pass_ret (q_pass_ret ?_)
             refine q_block_ret ?_
             refine q_pass_ret (qT (qT (qT (qT (qT (qT ?_))))))
             exact f_ret (r_two rfl rfl rfl) (⟨rfl, rfl⟩) (fun w S => S)
            · -- h13F
             have h13b := h13
             try simp only [decide_eq_true_eq, decide_eq_false_iff_not, Bool.not_eq_eq_eq_not, Bool.not_true, Bool.not_false, Bool.not_eq_true', Bool.not_eq_false', Int.not_lt, Int.not_le, Bool.or_eq_true, Bool.and_eq_true] at h13
             refine c_skip (q_then ?_)
             have hkP : ∀ p ∈ xs, strlt p.f_key (bts out60) := last_all hdr.srt (show xs[((xs.length : Int) - 1).toNat]? = some x143 from hx143) (by omega) (show slt x143.f_key (bts out60) = true by first | assumption | simp_all)
             refine cP p4 (cP p4 (cP p5 (cP p5 (cP p5 (cP p5 (cP p3 (cP p3 (cP p3 (cP p3 ?_)))))))))
             refine cP p5 (cP p5 ?_)
             refine c_heldF [blk m53 (.cells #[.int .i64 n, .slice ax (xs).length cx] 54 (0, 0)), row e_Row.T e_Row.sz ax (xs).length cx (flat e_Row xs)] (blk ke (.cells #[.slice a (bs).length c, .int .i64 (i80 : Int)] 92 (0, 0)) :: row e8.T e8.sz a70 (out70).length c70 (flat e8 out70) :: row e8.T e8.sz a60 (out60).length c60 (flat e8 out60) :: vals xs :: F) (by kernel_rfl) ?_
             refine h_take 0 rfl rfl (by kernel_rfl) (by kernel_rfl) (by kernel_rfl) (fun L0 => v_move rfl rfl) ?_
             refine h_take 1 rfl rfl (by kernel_rfl) (by kernel_rfl) (by kernel_rfl) (fun L0 => v_move rfl rfl) ?_
             refine h_take 2 rfl rfl (by kernel_rfl) (by kernel_rfl) (by kernel_rfl) (fun L0 => v_nil rfl rfl) ?_
             refine h_take 3 rfl rfl (by kernel_rfl) (by kernel_rfl) (by kernel_rfl) (fun L0 => v_fieldAddr (q := ⟨m53, 1, none⟩) rfl rfl Try.underlying54 rfl ti43 rfl) ?_
             refine h_take 5 rfl rfl (by kernel_rfl) (by kernel_rfl) (by kernel_rfl) (fun L0 => v_move rfl rfl) ?_
             refine h_take 6 rfl rfl (by kernel_rfl) (by kernel_rfl) (by kernel_rfl) (fun L0 => v_bytesStr (e := e8) rfl rfl rfl Try.underlying23 Try.underlying5 Try.underlying9 (rds_own e8_ok 2 rfl)) ?_
             refine h_take 7 rfl rfl (by kernel_rfl) (by kernel_rfl) (by kernel_rfl) (fun L0 => v_move rfl rfl) ?_
             refine h_take 8 rfl rfl (by kernel_rfl) (by kernel_rfl) (by kernel_rfl) (fun L0 => v_bin rfl rfl rfl b_eql) ?_
             refine h_take 9 rfl rfl (by kernel_rfl) (by kernel_rfl) (by kernel_rfl) (fun L0 => v_move rfl rfl) ?_
             refine h_take 10 rfl rfl (by kernel_rfl) (by kernel_rfl) (by kernel_rfl) (fun L0 => v_move rfl rfl) ?_
             refine h_take 11 rfl rfl (by kernel_rfl) (by kernel_rfl) (by kernel_rfl) (fun L0 => v_int rfl rfl Try.underlying34 Try.underlying3 (wrap_i64 (by omega) (by omega))) ?_
             refine h_take 12 rfl rfl (by kernel_rfl) (by kernel_rfl) (by kernel_rfl) (fun L0 => v_move rfl rfl) ?_
             refine h_take 13 rfl rfl (by kernel_rfl) (by kernel_rfl) (by kernel_rfl) (fun L0 => v_build rfl sp36 ti36 rfl ((fill_cons (cells' := [.bool (decide (((byteR ys60).1.toNat : Int) = 1)), .slice none 0 0, .int .i64 0, .int .u64 0]) rfl rfl rfl rfl (fill_cons (cells' := [.bool (decide (((byteR ys60).1.toNat : Int) = 1)), .slice a70 (out70).length c70, .int .i64 0, .int .u64 0]) rfl rfl rfl rfl (fill_cons (cells' := [.bool (decide (((byteR ys60).1.toNat : Int) = 1)), .slice a70 (out70).length c70, .int .i64 ((numR 0 0 ys70).1 : Int), .int .u64 0]) rfl rfl rfl rfl (fill_cons (cells' := [.bool (decide (((byteR ys60).1.toNat : Int) = 1)), .slice a70 (out70).length c70, .int .i64 ((numR 0 0 ys70).1 : Int), .int .u64 ((numR 0 0 ys75).1 : Int)]) rfl rfl rfl rfl fill_nil)))))) ?_
             refine h_take 14 rfl rfl (by kernel_rfl) (by kernel_rfl) (by kernel_rfl) (fun L0 => v_build rfl sp49 ti49 rfl ((fill_cons (cells' := [.string (bts out60), .bool false, .slice none 0 0, .int .i64 0, .int .u64 0]) rfl rfl rfl rfl (fill_cons (cells' := [.string (bts out60), .bool (decide (((byteR ys60).1.toNat : Int) = 1)), .slice a70 (out70).length c70, .int .i64 ((numR 0 0 ys70).1 : Int), .int .u64 ((numR 0 0 ys75).1 : Int)]) rfl rfl rfl rfl fill_nil)))) ?_
             refine h_many (is := [4, 15]) (by kernel_rfl) (by decide) (forall_cons ⟨_, rfl, ?_⟩ (forall_cons ⟨_, rfl, ?_⟩ forall_nil))
             · -- 4 comes first
              refine l_in2 ?_
              refine o_load1 rfl rfl Try.underlying43 rfl (rd_mem 0 rfl rfl) ?_
              refine l_nil (q_out2 (h_next ?_))
              refine h_one 15 rfl (by kernel_rfl) ?_
              refine l_in2 ?_
              refine o_lit e_Row_ok rfl Try.underlying43 rfl rfl rfl (lit_ok rfl) [(⟨bts out60, ⟨decide (((byteR ys60).1.toNat : Int) = 1), ⟨a70, out70, c70⟩, ((numR 0 0 ys70).1 : Int), ((numR 0 0 ys75).1 : Int)⟩⟩ : ItA)] rfl rfl fun a165 => ?_
              refine l_nil (q_out3 (h_next ?_))
              refine h_one 16 rfl (by kernel_rfl) ?_
              refine l_in3 (l_f2 ?_)
              refine o_append e_Row_ok rfl rfl rfl Try.underlying43 (rds_own e_Row_ok 1 rfl) (by show (_ + _) * 64 ≤ _; (try simp only [List.length_append, List.length_cons, List.length_nil]); omega) (by (try simp only [List.length_append, List.length_cons, List.length_nil]); omega) fun a166 c166 => ?_
              refine l_f1 ?_
              refine l_drop ?_
              refine l_nil (q_out2 (h_next ?_))
              refine h_take 17 rfl rfl (by kernel_rfl) (by kernel_rfl) (by kernel_rfl) (fun L0 => v_nil rfl rfl) ?_
              refine h_take 18 rfl rfl (by kernel_rfl) (by kernel_rfl) (by kernel_rfl) (fun L0 => v_fieldAddr (q := ⟨m53, 1, none⟩) rfl rfl Try.underlying54 rfl ti43 rfl) ?_
              refine h_one 19 rfl (by kernel_rfl) ?_
              refine l_in2 (l_f1 ?_)
              refine o_store1 rfl rfl rfl ti43 rfl rfl ?_
              refine l_nil (q_out2 (h_next ?_))
              refine h_done (by kernel_rfl) ?_
              refine q_in2 (q_block (q_then (c_region (o_move rfl rfl ?_))))
              refine o_bin rfl rfl rfl (b_sub (show IntKind.u64.wrap ((m : Int) - 1) = ((m - 1 : Nat) : Int) from by rw [wrap_u64 (by omega) (by omega)]; omega)) ?_
              refine o_assign rfl rfl (l_nil ?_)
              have hxP : proj (⟨bts out60, ⟨decide (((byteR ys60).1.toNat : Int) = 1), ⟨a70, out70, c70⟩, ((numR 0 0 ys70).1 : Int), ((numR 0 0 ys75).1 : Int)⟩⟩ : ItA) = rowP yse := by unfold rowP rdKey rdVal rdCnt rdHas; rw [e3, ← f60, ← f65, ← f75, ← u8dec, ← hout60, ← hout70]; rfl
              refine qP p4 (qP p3 (qP p3 (qP p3 (qP p5 (qP p5 ?_)))))
              refine q_conv (L' := vals (xs ++ [(⟨bts out60, ⟨decide (((byteR ys60).1.toNat : Int) = 1), ⟨a70, out70, c70⟩, ((numR 0 0 ys70).1 : Int), ((numR 0 0 ys75).1 : Int)⟩⟩ : ItA)]) :: _) (fun w S => Sat.vals_app (x := (⟨bts out60, ⟨decide (((byteR ys60).1.toNat : Int) = 1), ⟨a70, out70, c70⟩, ((numR 0 0 ys70).1 : Int), ((numR 0 0 ys75).1 : Int)⟩⟩ : ItA)) S) ?_
              refine qP p4 (qT (qP p3 (qP p1 (qP p3 (qP p3 ?_)))))
              exact q_round (m - 1, i80, ys80, xs ++ [(⟨bts out60, ⟨decide (((byteR ys60).1.toNat : Int) = 1), ⟨a70, out70, c70⟩, ((numR 0 0 ys70).1 : Int), ((numR 0 0 ys75).1 : Int)⟩⟩ : ItA)], a166, c166) (by exact ⟨by dsimp only; omega, he80, hdr.on (by omega) hyl hgr hxP hkP f80⟩) (by (try dsimp only); omega) ⟨vr, vr, vr, vr, trivial⟩ (fun w S => S)
             · -- 15 comes first
              refine l_in2 ?_
              refine o_lit e_Row_ok rfl Try.underlying43 rfl rfl rfl (lit_ok rfl) [(⟨bts out60, ⟨decide (((byteR ys60).1.toNat : Int) = 1), ⟨a70, out70, c70⟩, ((numR 0 0 ys70).1 : Int), ((numR 0 0 ys75).1 : Int)⟩⟩ : ItA)] rfl rfl fun a165 => ?_
              refine l_nil (q_out3 (h_next ?_))
              refine h_one 4 rfl (by kernel_rfl) ?_
              refine l_in3 ?_
              refine o_load1 rfl rfl Try.underlying43 rfl (rd_mem 1 rfl rfl) ?_
              refine l_nil (q_out3 (h_next ?_))
              refine h_one 16 rfl (by kernel_rfl) ?_
              refine l_in3 (l_f2 ?_)
              refine o_append e_Row_ok rfl rfl rfl Try.underlying43 (rds_own e_Row_ok 1 rfl) (by show (_ + _) * 64 ≤ _; (try simp only [List.length_append, List.length_cons, List.length_nil]); omega) (by (try simp only [List.length_append, List.length_cons, List.length_nil]); omega) fun a166 c166 => ?_
              refine l_f1 ?_
              refine l_drop ?_
              refine l_nil (q_out2 (h_next ?_))
              refine h_take 17 rfl rfl (by kernel_rfl) (by kernel_rfl) (by kernel_rfl) (fun L0 => v_nil rfl rfl) ?_
              refine h_take 18 rfl rfl (by kernel_rfl) (by kernel_rfl) (by kernel_rfl) (fun L0 => v_fieldAddr (q := ⟨m53, 1, none⟩) rfl rfl Try.underlying54 rfl ti43 rfl) ?_
              refine h_one 19 rfl (by kernel_rfl) ?_
              refine l_in2 (l_f1 ?_)
              refine o_store1 rfl rfl rfl ti43 rfl rfl ?_
              refine l_nil (q_out2 (h_next ?_))
              refine h_done (by kernel_rfl) ?_
              refine q_in2 (q_block (q_then (c_region (o_move rfl rfl ?_))))
              refine o_bin rfl rfl rfl (b_sub (show IntKind.u64.wrap ((m : Int) - 1) = ((m - 1 : Nat) : Int) from by rw [wrap_u64 (by omega) (by omega)]; omega)) ?_
              refine o_assign rfl rfl (l_nil ?_)
              have hxP : proj (⟨bts out60, ⟨decide (((byteR ys60).1.toNat : Int) = 1), ⟨a70, out70, c70⟩, ((numR 0 0 ys70).1 : Int), ((numR 0 0 ys75).1 : Int)⟩⟩ : ItA) = rowP yse := by unfold rowP rdKey rdVal rdCnt rdHas; rw [e3, ← f60, ← f65, ← f75, ← u8dec, ← hout60, ← hout70]; rfl
              refine qP p4 (qP p3 (qP p3 (qP p3 (qP p5 (qP p5 ?_)))))
              refine q_conv (L' := vals (xs ++ [(⟨bts out60, ⟨decide (((byteR ys60).1.toNat : Int) = 1), ⟨a70, out70, c70⟩, ((numR 0 0 ys70).1 : Int), ((numR 0 0 ys75).1 : Int)⟩⟩ : ItA)]) :: _) (fun w S => Sat.vals_app (x := (⟨bts out60, ⟨decide (((byteR ys60).1.toNat : Int) = 1), ⟨a70, out70, c70⟩, ((numR 0 0 ys70).1 : Int), ((numR 0 0 ys75).1 : Int)⟩⟩ : ItA)) S) ?_
              refine qP p4 (qT (qP p3 (qP p1 (qP p3 (qP p3 ?_)))))
              exact q_round (m - 1, i80, ys80, xs ++ [(⟨bts out60, ⟨decide (((byteR ys60).1.toNat : Int) = 1), ⟨a70, out70, c70⟩, ((numR 0 0 ys70).1 : Int), ((numR 0 0 ys75).1 : Int)⟩⟩ : ItA)], a166, c166) (by exact ⟨by dsimp only; omega, he80, hdr.on (by omega) hyl hgr hxP hkP f80⟩) (by (try dsimp only); omega) ⟨vr, vr, vr, vr, trivial⟩ (fun w S => S)
           · -- hne False
            refine c_quiet (by kernel_rfl) (by kernel_rfl) ?_
            refine Qt.o_val rfl (v_move rfl rfl) ?_
            refine Qt.o_val rfl (v_bin rfl rfl rfl b_geq) ?_
            refine Qt.l_eq (t := 136) (v' := .bool false) rfl (show _ = Value.bool false from by rw [decide_eq_false (by omega)]) ?_
            refine Qt.o_val rfl (v_move rfl rfl) ?_
            refine Qt.o_no rfl rfl rfl rfl ?_
            refine Qt.o_no rfl rfl rfl rfl ?_
            refine Qt.o_no rfl rfl rfl rfl ?_
            refine Qt.o_no rfl rfl rfl rfl ?_
            refine Qt.o_no rfl rfl rfl rfl ?_
            refine Qt.o_no rfl rfl rfl rfl ?_
            refine Qt.o_no rfl rfl rfl rfl ?_
            refine Qt.o_no rfl rfl rfl rfl ?_
            refine Qt.o_no rfl rfl rfl rfl ?_
            refine Qt.o_no rfl rfl rfl rfl ?_
            refine Qt.o_no rfl rfl rfl rfl ?_
            refine Qt.o_val rfl (v_pick_false rfl rfl rfl) ?_
            refine Qt.l_nil ?_
            refine q_then (c_false rfl (c_skip (q_then ?_)))
            have hkP : ∀ p ∈ xs, strlt p.f_key (bts out60) := fun p hp => by have h9 := List.length_pos_of_mem hp; omega
            refine cP p4 (cP p4 (cP p5 (cP p5 (cP p5 (cP p5 (cP p3 (cP p3 (cP p3 (cP p3 ?_)))))))))
            refine cP p5 (cP p5 ?_)
            refine c_heldF [blk m53 (.cells #[.int .i64 n, .slice ax (xs).length cx] 54 (0, 0)), row e_Row.T e_Row.sz ax (xs).length cx (flat e_Row xs)] (blk ke (.cells #[.slice a (bs).length c, .int .i64 (i80 : Int)] 92 (0, 0)) :: row e8.T e8.sz a70 (out70).length c70 (flat e8 out70) :: row e8.T e8.sz a60 (out60).length c60 (flat e8 out60) :: vals xs :: F) (by kernel_rfl) ?_
            refine h_take 0 rfl rfl (by kernel_rfl) (by kernel_rfl) (by kernel_rfl) (fun L0 => v_move rfl rfl) ?_
            refine h_take 1 rfl rfl (by kernel_rfl) (by kernel_rfl) (by kernel_rfl) (fun L0 => v_move rfl rfl) ?_
            refine h_take 2 rfl rfl (by kernel_rfl) (by kernel_rfl) (by kernel_rfl) (fun L0 => v_nil rfl rfl) ?_
            refine h_take 3 rfl rfl (by kernel_rfl) (by kernel_rfl) (by kernel_rfl) (fun L0 => v_fieldAddr (q := ⟨m53, 1, none⟩) rfl rfl Try.underlying54 rfl ti43 rfl) ?_
            refine h_take 5 rfl rfl (by kernel_rfl) (by kernel_rfl) (by kernel_rfl) (fun L0 => v_move rfl rfl) ?_
            refine h_take 6 rfl rfl (by kernel_rfl) (by kernel_rfl) (by kernel_rfl) (fun L0 => v_bytesStr (e := e8) rfl rfl rfl Try.underlying23 Try.underlying5 Try.underlying9 (rds_own e8_ok 2 rfl)) ?_
            refine h_take 7 rfl rfl (by kernel_rfl) (by kernel_rfl) (by kernel_rfl) (fun L0 => v_move rfl rfl) ?_
            refine h_take 8 rfl rfl (by kernel_rfl) (by kernel_rfl) (by kernel_rfl) (fun L0 => v_bin rfl rfl rfl b_eql) ?_
            refine h_take 9 rfl rfl (by kernel_rfl) (by kernel_rfl) (by kernel_rfl) (fun L0 => v_move rfl rfl) ?_
            refine h_take 10 rfl rfl (by kernel_rfl) (by kernel_rfl) (by kernel_rfl) (fun L0 => v_move rfl rfl) ?_
            refine h_take 11 rfl rfl (by kernel_rfl) (by kernel_rfl) (by kernel_rfl) (fun L0 => v_int rfl rfl Try.underlying34 Try.underlying3 (wrap_i64 (by omega) (by omega))) ?_
            refine h_take 12 rfl rfl (by kernel_rfl) (by kernel_rfl) (by kernel_rfl) (fun L0 => v_move rfl rfl) ?_
            refine h_take 13 rfl rfl (by kernel_rfl) (by kernel_rfl) (by kernel_rfl) (fun L0 => v_build rfl sp36 ti36 rfl ((fill_cons (cells' := [.bool (decide (((byteR ys60).1.toNat : Int) = 1)), .slice none 0 0, .int .i64 0, .int .u64 0]) rfl rfl rfl rfl (fill_cons (cells' := [.bool (decide (((byteR ys60).1.toNat : Int) = 1)), .slice a70 (out70).length c70, .int .i64 0, .int .u64 0]) rfl rfl rfl rfl (fill_cons (cells' := [.bool (decide (((byteR ys60).1.toNat : Int) = 1)), .slice a70 (out70).length c70, .int .i64 ((numR 0 0 ys70).1 : Int), .int .u64 0]) rfl rfl rfl rfl (fill_cons (cells' := [.bool (decide (((byteR ys60).1.toNat : Int) = 1)), .slice a70 (out70).length c70, .int .i64 ((numR 0 0 ys70).1 : Int), .int .u64 ((numR 0 0 ys75).1 : Int)]) rfl rfl rfl rfl fill_nil)))))) ?_
            refine h_take 14 rfl rfl (by kernel_rfl) (by kernel_rfl) (by kernel_rfl) (fun L0 => v_build rfl sp49 ti49 rfl ((fill_cons (cells' := [.string (bts out60), .bool false, .slice none 0 0, .int .i64 0, .int .u64 0]) rfl rfl rfl rfl (fill_cons (cells' := [.string (bts out60), .bool (decide (((byteR ys60).1.toNat : Int) = 1)), .slice a70 (out70).length c70, .int .i64 ((numR 0 0 ys70).1 : Int), .int .u64 ((numR 0 0 ys75).1 : Int)]) rfl rfl rfl rfl fill_nil)))) ?_
            refine h_many (is := [4, 15]) (by kernel_rfl) (by decide) (forall_cons ⟨_, rfl, ?_⟩ (forall_cons ⟨_, rfl, ?_⟩ forall_nil))
            · -- 4 comes first
             refine l_in2 ?_
             refine o_load1 rfl rfl Try.underlying43 rfl (rd_mem 0 rfl rfl) ?_
             refine l_nil (q_out2 (h_next ?_))
             refine h_one 15 rfl (by kernel_rfl) ?_
             refine l_in2 ?_
             refine o_lit e_Row_ok rfl Try.underlying43 rfl rfl rfl (lit_ok rfl) [(⟨bts out60, ⟨decide (((byteR ys60).1.toNat : Int) = 1), ⟨a70, out70, c70⟩, ((numR 0 0 ys70).1 : Int), ((numR 0 0 ys75).1 : Int)⟩⟩ : ItA)] rfl rfl fun a165 => ?_
             refine l_nil (q_out3 (h_next ?_))
             refine h_one 16 rfl (by kernel_rfl) ?_
             refine l_in3 (l_f2 ?_)
             refine o_append e_Row_ok rfl rfl rfl Try.underlying43 (rds_own e_Row_ok 1 rfl) (by show (_ + _) * 64 ≤ _; (try simp only [List.length_append, List.length_cons, List.length_nil]); omega) (by (try simp only [List.length_append, List.length_cons, List.length_nil]); omega) fun a166 c166 => ?_
             refine l_f1 ?_
             refine l_drop ?_
             refine l_nil (q_out2 (h_next ?_))
             refine h_take 17 rfl rfl (by kernel_rfl) (by kernel_rfl) (by kernel_rfl) (fun L0 => v_nil rfl rfl) ?_
             refine h_take 18 rfl rfl (by kernel_rfl) (by kernel_rfl) (by kernel_rfl) (fun L0 => v_fieldAddr (q := ⟨m53, 1, none⟩) rfl rfl Try.underlying54 rfl ti43 rfl) ?_
             refine h_one 19 rfl (by kernel_rfl) ?_
             refine l_in2 (l_f1 ?_)
             refine o_store1 rfl rfl rfl ti43 rfl rfl ?_
             refine l_nil (q_out2 (h_next ?_))
             refine h_done (by kernel_rfl) ?_
             refine q_in2 (q_block (q_then (c_region (o_move rfl rfl ?_))))
             refine o_bin rfl rfl rfl (b_sub (show IntKind.u64.wrap ((m : Int) - 1) = ((m - 1 : Nat) : Int) from by rw [wrap_u64 (by omega) (by omega)]; omega)) ?_
             refine o_assign rfl rfl (l_nil ?_)
             have hxP : proj (⟨bts out60, ⟨decide (((byteR ys60).1.toNat : Int) = 1), ⟨a70, out70, c70⟩, ((numR 0 0 ys70).1 : Int), ((numR 0 0 ys75).1 : Int)⟩⟩ : ItA) = rowP yse := by unfold rowP rdKey rdVal rdCnt rdHas; rw [e3, ← f60, ← f65, ← f75, ← u8dec, ← hout60, ← hout70]; rfl
             refine qP p4 (qP p3 (qP p3 (qP p3 (qP p5 (qP p5 ?_)))))
             refine q_conv (L' := vals (xs ++ [(⟨bts out60, ⟨decide (((byteR ys60).1.toNat : Int) = 1), ⟨a70, out70, c70⟩, ((numR 0 0 ys70).1 : Int), ((numR 0 0 ys75).1 : Int)⟩⟩ : ItA)]) :: _) (fun w S => Sat.vals_app (x := (⟨bts out60, ⟨decide (((byteR ys60).1.toNat : Int) = 1), ⟨a70, out70, c70⟩, ((numR 0 0 ys70).1 : Int), ((numR 0 0 ys75).1 : Int)⟩⟩ : ItA)) S) ?_
             refine qP p4 (qT (qP p3 (qP p1 (qP p3 (qP p3 ?_)))))
             exact q_round (m - 1, i80, ys80, xs ++ [(⟨bts out60, ⟨decide (((byteR ys60).1.toNat : Int) = 1), ⟨a70, out70, c70⟩, ((numR 0 0 ys70).1 : Int), ((numR 0 0 ys75).1 : Int)⟩⟩ : ItA)], a166, c166) (by exact ⟨by dsimp only; omega, he80, hdr.on (by omega) hyl hgr hxP hkP f80⟩) (by (try dsimp only); omega) ⟨vr, vr, vr, vr, trivial⟩ (fun w S => S)
            · -- 15 comes first
             refine l_in2 ?_
             refine o_lit e_Row_ok rfl Try.underlying43 rfl rfl rfl (lit_ok rfl) [(⟨bts out60, ⟨decide (((byteR ys60).1.toNat : Int) = 1), ⟨a70, out70, c70⟩, ((numR 0 0 ys70).1 : Int), ((numR 0 0 ys75).1 : Int)⟩⟩ : ItA)] rfl rfl fun a165 => ?_
             refine l_nil (q_out3 (h_next ?_))
             refine h_one 4 rfl (by kernel_rfl) ?_
             refine l_in3 ?_
             refine o_load1 rfl rfl Try.underlying43 rfl (rd_mem 1 rfl rfl) ?_
             refine l_nil (q_out3 (h_next ?_))
             refine h_one 16 rfl (by kernel_rfl) ?_
             refine l_in3 (l_f2 ?_)
             refine o_append e_Row_ok rfl rfl rfl Try.underlying43 (rds_own e_Row_ok 1 rfl) (by show (_ + _) * 64 ≤ _; (try simp only [List.length_append, List.length_cons, List.length_nil]); omega) (by (try simp only [List.length_append, List.length_cons, List.length_nil]); omega) fun a166 c166 => ?_
             refine l_f1 ?_
             refine l_drop ?_
             refine l_nil (q_out2 (h_next ?_))
             refine h_take 17 rfl rfl (by kernel_rfl) (by kernel_rfl) (by kernel_rfl) (fun L0 => v_nil rfl rfl) ?_
             refine h_take 18 rfl rfl (by kernel_rfl) (by kernel_rfl) (by kernel_rfl) (fun L0 => v_fieldAddr (q := ⟨m53, 1, none⟩) rfl rfl Try.underlying54 rfl ti43 rfl) ?_
             refine h_one 19 rfl (by kernel_rfl) ?_
             refine l_in2 (l_f1 ?_)
             refine o_store1 rfl rfl rfl ti43 rfl rfl ?_
             refine l_nil (q_out2 (h_next ?_))
             refine h_done (by kernel_rfl) ?_
             refine q_in2 (q_block (q_then (c_region (o_move rfl rfl ?_))))
             refine o_bin rfl rfl rfl (b_sub (show IntKind.u64.wrap ((m : Int) - 1) = ((m - 1 : Nat) : Int) from by rw [wrap_u64 (by omega) (by omega)]; omega)) ?_
             refine o_assign rfl rfl (l_nil ?_)
             have hxP : proj (⟨bts out60, ⟨decide (((byteR ys60).1.toNat : Int) = 1), ⟨a70, out70, c70⟩, ((numR 0 0 ys70).1 : Int), ((numR 0 0 ys75).1 : Int)⟩⟩ : ItA) = rowP yse := by unfold rowP rdKey rdVal rdCnt rdHas; rw [e3, ← f60, ← f65, ← f75, ← u8dec, ← hout60, ← hout70]; rfl
             refine qP p4 (qP p3 (qP p3 (qP p3 (qP p5 (qP p5 ?_)))))
             refine q_conv (L' := vals (xs ++ [(⟨bts out60, ⟨decide (((byteR ys60).1.toNat : Int) = 1), ⟨a70, out70, c70⟩, ((numR 0 0 ys70).1 : Int), ((numR 0 0 ys75).1 : Int)⟩⟩ : ItA)]) :: _) (fun w S => Sat.vals_app (x := (⟨bts out60, ⟨decide (((byteR ys60).1.toNat : Int) = 1), ⟨a70, out70, c70⟩, ((numR 0 0 ys70).1 : Int), ((numR 0 0 ys75).1 : Int)⟩⟩ : ItA)) S) ?_
             refine qP p4 (qT (qP p3 (qP p1 (qP p3 (qP p3 ?_)))))
             exact q_round (m - 1, i80, ys80, xs ++ [(⟨bts out60, ⟨decide (((byteR ys60).1.toNat : Int) = 1), ⟨a70, out70, c70⟩, ((numR 0 0 ys70).1 : Int), ((numR 0 0 ys75).1 : Int)⟩⟩ : ItA)], a166, c166) (by exact ⟨by dsimp only; omega, he80, hdr.on (by omega) hyl hgr hxP hkP f80⟩) (by (try dsimp only); omega) ⟨vr, vr, vr, vr, trivial⟩ (fun w S => S)
       · -- h7F
        have h7b := h7
        try simp only [decide_eq_false_iff_not, Int.not_lt, Int.not_le] at h7
        refine o_no rfl rfl rfl rfl (o_no rfl rfl rfl rfl (o_no rfl rfl rfl rfl (o_no rfl rfl rfl rfl (o_no rfl rfl rfl rfl (o_no rfl rfl rfl rfl (o_no rfl rfl rfl rfl (o_yes rfl rfl rfl (o_pick_false rfl rfl rfl (o_pick_false rfl rfl rfl ?_)))))))))
        refine o_move rfl rfl (o_yes rfl rfl rfl (o_move rfl rfl (o_yes rfl rfl rfl ?_)))
        refine o_bin rfl rfl rfl b_eql ?_
        refine o_yes rfl rfl rfl (o_move rfl rfl ?_)
        refine l_split (t := 119) rfl (fun h14 => ?_) (fun h14 => ?_)
        · -- h14T
         have h14b := h14
         try simp only [decide_eq_true_eq] at h14
         refine o_yes rfl rfl rfl (o_move rfl rfl (o_yes rfl rfl rfl ?_))
         refine o_int rfl rfl Try.underlying34 Try.underlying3 (wrap_i64 (by omega) (by omega)) ?_
         refine o_yes rfl rfl rfl (o_move rfl rfl (o_yes rfl rfl rfl ?_))
         refine o_bytesStr (e := e8) rfl rfl rfl Try.underlying23 Try.underlying5 Try.underlying9 (rds_own e8_ok 2 rfl) ?_
         refine o_yes rfl rfl rfl (o_move rfl rfl (o_yes rfl rfl rfl ?_))
         refine o_call rfl cal23 rfl (rdefault_ (k := (bts out60)) (n := n) (by rw [hout60]; have h9 := key_le (t := yse); exact Nat.le_trans h9 (by omega)) (by omega)) ?_
         rintro _ _ ⟨rfl, rfl⟩
         refine o_yes rfl rfl rfl ?_
         refine o_bin rfl rfl rfl b_neq ?_
         refine o_yes rfl rfl rfl (o_pick_true rfl rfl rfl (o_pick_false rfl rfl rfl (l_nil (q_then ?_))))
         refine c_cond rfl (fun h15 => ?_) (fun h15 => ?_)
         · -- h15T
          have h15b := h15
          try simp only [Bool.not_eq_true', decide_eq_false_iff_not, Int.not_lt, Int.not_le] at h15
          refine c_seq (c_region (o_assign rfl rfl (o_assign rfl rfl (l_nil (q_then (c_ret (q_pass_ret ?_)))))))
          refine q_block_ret ?_
          refine q_pass_ret (q_pass_ret ?_)
          refine q_block_ret ?_
          refine q_pass_ret (qT (qT (qT (qT (qT (qT ?_))))))
          exact f_ret (r_two rfl rfl rfl) (⟨rfl, rfl⟩) (fun w S => S)
         · -- h15F
          have h15b := h15
          try simp only [Bool.not_eq_false', decide_eq_true_eq] at h15
          refine c_skip (q_then (c_seq ?_))
          have hxl := hdr.len
          have hgr := good_row (t := yse) hn3 (by rw [← f60, ← f65, ← f70, ← f75]; omega) (by show (byteR (y1 yse)).1.toNat ≤ 1; rw [← f60]; omega) (by show (((numR 0 0 (y3 yse)).1 : Nat) : Int) < n; rw [← f70]; omega) (by show ¬ (byteR (y1 yse)).1.toNat = 0 ∨ ((textR (y2 yse)).1.length = 0 ∧ ¬ (numR 0 0 (y4 yse)).1 = 0); rw [← f60, ← f65, ← f75, ← hout70]; omega) (by show ¬ (numR 0 0 (y4 yse)).1 = 0 ∨ (((numR 0 0 (y3 yse)).1 : Nat) : Int) = dflt (bts (textR yse).1) n; rw [← f70, ← f75, ← hout60]; first | exact .inl (by omega) | exact .inr (by omega))
          have hh3 : (numR 0 0 ys70).1 < 3 := by omega
          have e3 : rdHome yse % 3 = (numR 0 0 ys70).1 := by rw [f70]; exact Nat.mod_eq_of_lt (by show (numR 0 0 (y3 yse)).1 < 3; rw [← f70]; exact hh3)
          refine c_region (o_move rfl rfl (o_nil rfl rfl ?_))
          refine o_fieldAddr (q := ⟨m53, 1, none⟩) rfl rfl Try.underlying54 rfl ti43 rfl ?_
          refine o_load1 rfl rfl Try.underlying43 rfl (rd_mem 3 rfl rfl) ?_
          refine o_len rfl rfl Try.underlying43 ?_
          refine o_bin rfl rfl rfl (b_sub (wrap_i64 (by omega) (by omega))) ?_
          refine o_assign rfl rfl (l_nil (q_then (c_seq (c_seq ?_))))
          refine (Classical.em (0 < xs.length)).elim (fun hne => ?_) (fun hne => ?_)
          · -- hne True
           refine c_fact (p := ∃ ad, ax = some ad) (rds_some (e := e_Row) (xs := xs) (rds_own e_Row_ok 4 rfl) (by intro h0; rw [h0] at hne; simp at hne)) ?_
           rintro ⟨adx, eadx⟩
           refine c_quiet (by kernel_rfl) (by kernel_rfl) ?_
           refine Qt.o_val rfl (v_move rfl rfl) ?_
           refine Qt.o_val rfl (v_bin rfl rfl rfl b_geq) ?_
           refine Qt.l_eq (t := 136) (v' := .bool true) rfl (show _ = Value.bool true from by rw [decide_eq_true (by omega)]) ?_
           refine Qt.o_val rfl (v_move rfl rfl) (Qt.o_yes rfl rfl rfl (Qt.o_val rfl (v_move rfl rfl) (Qt.o_yes rfl rfl rfl (Qt.o_val rfl (v_nil rfl rfl) (Qt.o_yes rfl rfl rfl ?_)))))
           refine Qt.o_val rfl (v_fieldAddr (q := ⟨m53, 1, none⟩) rfl rfl Try.underlying54 rfl ti43 rfl) ?_
           refine Qt.o_yes rfl rfl rfl ?_
           refine Qt.o_val rfl (v_load1 rfl rfl Try.underlying43 rfl (rd_mem 3 rfl rfl)) ?_
           refine Qt.o_yes rfl rfl rfl (Qt.o_val rfl (v_move rfl rfl) (Qt.o_yes rfl rfl rfl ?_))
           refine Qt.o_val rfl (v_indexK e_Row_ok eadx rfl rfl rfl Try.underlying43 (by omega) (by omega)) ?_
           obtain ⟨x143, hx143⟩ : ∃ x, (xs)[(((xs).length : Int) - 1).toNat]? = some x := ⟨_, List.getElem?_eq_getElem (by omega)⟩
           refine Qt.o_yes rfl rfl rfl ?_
           refine Qt.o_val rfl (v_fieldAddr rfl rfl Try.underlying49 rfl ti9 (Addr.add_add' _ _ _)) ?_
           refine Qt.o_yes rfl rfl rfl ?_
           refine Qt.o_val rfl (v_load1 rfl rfl Try.underlying9 rfl (rd_sl e_Row_ok eadx (rds_own e_Row_ok 4 rfl) hx143 rfl)) ?_
           refine Qt.o_yes rfl rfl rfl (Qt.o_val rfl (v_move rfl rfl) (Qt.o_yes rfl rfl rfl ?_))
           refine Qt.o_val rfl (v_bytesStr (e := e8) rfl rfl rfl Try.underlying23 Try.underlying5 Try.underlying9 (rds_own e8_ok 2 rfl)) ?_
           refine Qt.o_yes rfl rfl rfl ?_
           refine Qt.o_val rfl (v_bin rfl rfl rfl b_sgeq) ?_
           refine Qt.o_val rfl (v_pick_true rfl rfl rfl) ?_
           refine Qt.l_nil ?_
           refine q_then ?_
           refine c_cond rfl (fun h16 => ?_) (fun h16 => ?_)
           · -- h16T
            have h16b := h16
            try simp only [decide_eq_true_eq, decide_eq_false_iff_not, Bool.not_eq_eq_eq_not, Bool.not_true, Bool.not_false, Bool.not_eq_true', Bool.not_eq_false', Int.not_lt, Int.not_le, Bool.or_eq_true, Bool.and_eq_true] at h16
            refine c_seq (c_region (o_assign rfl rfl (o_assign rfl rfl (l_nil (q_then (c_ret (q_pass_ret ?_)))))))
            refine q_block_ret ?_
            refine q_pass_ret (q_pass_ret ?_)
            refine q_block_ret ?_
            refine q_pass_ret (qT (qT (qT (qT (qT (qT ?_))))))
            exact f_ret (r_two rfl rfl rfl) (⟨rfl, rfl⟩) (fun w S => S)
           · -- h16F
            have h16b := h16
            try simp only [decide_eq_true_eq, decide_eq_false_iff_not, Bool.not_eq_eq_eq_not, Bool.not_true, Bool.not_false, Bool.not_eq_true', Bool.not_eq_false', Int.not_lt, Int.not_le, Bool.or_eq_true, Bool.and_eq_true] at h16
            refine c_skip (q_then ?_)
            have hkP : ∀ p ∈ xs, strlt p.f_key (bts out60) := last_all hdr.srt (show xs[((xs.length : Int) - 1).toNat]? = some x143 from hx143) (by omega) (show slt x143.f_key (bts out60) = true by first | assumption | simp_all)
            refine cP p4 (cP p4 (cP p5 (cP p5 (cP p5 (cP p5 (cP p3 (cP p3 (cP p3 (cP p3 ?_)))))))))
            refine cP p5 (cP p5 ?_)
            refine c_heldF [blk m53 (.cells #[.int .i64 n, .slice ax (xs).length cx] 54 (0, 0)), row e_Row.T e_Row.sz ax (xs).length cx (flat e_Row xs)] (blk ke (.cells #[.slice a (bs).length c, .int .i64 (i80 : Int)] 92 (0, 0)) :: row e8.T e8.sz a70 (out70).length c70 (flat e8 out70) :: row e8.T e8.sz a60 (out60).length c60 (flat e8 out60) :: vals xs :: F) (by kernel_rfl) ?_
            refine h_take 0 rfl rfl (by kernel_rfl) (by kernel_rfl) (by kernel_rfl) (fun L0 => v_move rfl rfl) ?_
            refine h_take 1 rfl rfl (by kernel_rfl) (by kernel_rfl) (by kernel_rfl) (fun L0 => v_move rfl rfl) ?_
            refine h_take 2 rfl rfl (by kernel_rfl) (by kernel_rfl) (by kernel_rfl) (fun L0 => v_nil rfl rfl) ?_
            refine h_take 3 rfl rfl (by kernel_rfl) (by kernel_rfl) (by kernel_rfl) (fun L0 => v_fieldAddr (q := ⟨m53, 1, none⟩) rfl rfl Try.underlying54 rfl ti43 rfl) ?_
            refine h_take 5 rfl rfl (by kernel_rfl) (by kernel_rfl) (by kernel_rfl) (fun L0 => v_move rfl rfl) ?_
            refine h_take 6 rfl rfl (by kernel_rfl) (by kernel_rfl) (by kernel_rfl) (fun L0 => v_bytesStr (e := e8) rfl rfl rfl Try.underlying23 Try.underlying5 Try.underlying9 (rds_own e8_ok 2 rfl)) ?_
            refine h_take 7 rfl rfl (by kernel_rfl) (by kernel_rfl) (by kernel_rfl) (fun L0 => v_move rfl rfl) ?_
            refine h_take 8 rfl rfl (by kernel_rfl) (by kernel_rfl) (by kernel_rfl) (fun L0 => v_bin rfl rfl rfl b_eql) ?_
            refine h_take 9 rfl rfl (by kernel_rfl) (by kernel_rfl) (by kernel_rfl) (fun L0 => v_move rfl rfl) ?_
            refine h_take 10 rfl rfl (by kernel_rfl) (by kernel_rfl) (by kernel_rfl) (fun L0 => v_move rfl rfl) ?_
            refine h_take 11 rfl rfl (by kernel_rfl) (by kernel_rfl) (by kernel_rfl) (fun L0 => v_int rfl rfl Try.underlying34 Try.underlying3 (wrap_i64 (by omega) (by omega))) ?_
            refine h_take 12 rfl rfl (by kernel_rfl) (by kernel_rfl) (by kernel_rfl) (fun L0 => v_move rfl rfl) ?_
            refine h_take 13 rfl rfl (by kernel_rfl) (by kernel_rfl) (by kernel_rfl) (fun L0 => v_build rfl sp36 ti36 rfl ((fill_cons (cells' := [.bool (decide (((byteR ys60).1.toNat : Int) = 1)), .slice none 0 0, .int .i64 0, .int .u64 0]) rfl rfl rfl rfl (fill_cons (cells' := [.bool (decide (((byteR ys60).1.toNat : Int) = 1)), .slice a70 (out70).length c70, .int .i64 0, .int .u64 0]) rfl rfl rfl rfl (fill_cons (cells' := [.bool (decide (((byteR ys60).1.toNat : Int) = 1)), .slice a70 (out70).length c70, .int .i64 ((numR 0 0 ys70).1 : Int), .int .u64 0]) rfl rfl rfl rfl (fill_cons (cells' := [.bool (decide (((byteR ys60).1.toNat : Int) = 1)), .slice a70 (out70).length c70, .int .i64 ((numR 0 0 ys70).1 : Int), .int .u64 ((numR 0 0 ys75).1 : Int)]) rfl rfl rfl rfl fill_nil)))))) ?_
            refine h_take 14 rfl rfl (by kernel_rfl) (by kernel_rfl) (by kernel_rfl) (fun L0 => v_build rfl sp49 ti49 rfl ((fill_cons (cells' := [.string (bts out60), .bool false, .slice none 0 0, .int .i64 0, .int .u64 0]) rfl rfl rfl rfl (fill_cons (cells' := [.string (bts out60), .bool (decide (((byteR ys60).1.toNat : Int) = 1)), .slice a70 (out70).length c70, .int .i64 ((numR 0 0 ys70).1 : Int), .int .u64 ((numR 0 0 ys75).1 : Int)]) rfl rfl rfl rfl fill_nil)))) ?_
            refine h_many (is := [4, 15]) (by kernel_rfl) (by decide) (forall_cons ⟨_, rfl, ?_⟩ (forall_cons ⟨_, rfl, ?_⟩ forall_nil))
            · -- 4 comes first
             refine l_in2 ?_
             refine o_load1 rfl rfl Try.underlying43 rfl (rd_mem 0 rfl rfl) ?_
             refine l_nil (q_out2 (h_next ?_))
             refine h_one 15 rfl (by kernel_rfl) ?_
             refine l_in2 ?_
             refine o_lit e_Row_ok rfl Try.underlying43 rfl rfl rfl (lit_ok rfl) [(⟨bts out60, ⟨decide (((byteR ys60).1.toNat : Int) = 1), ⟨a70, out70, c70⟩, ((numR 0 0 ys70).1 : Int), ((numR 0 0 ys75).1 : Int)⟩⟩ : ItA)] rfl rfl fun a165 => ?_
             refine l_nil (q_out3 (h_next ?_))
             refine h_one 16 rfl (by kernel_rfl) ?_
             refine l_in3 (l_f2 ?_)
             refine o_append e_Row_ok rfl rfl rfl Try.underlying43 (rds_own e_Row_ok 1 rfl) (by show (_ + _) * 64 ≤ _; (try simp only [List.length_append, List.length_cons, List.length_nil]); omega) (by (try simp only [List.length_append, List.length_cons, List.length_nil]); omega) fun a166 c166 => ?_
             refine l_f1 ?_
             refine l_drop ?_
             refine l_nil (q_out2 (h_next ?_))
             refine h_take 17 rfl rfl (by kernel_rfl) (by kernel_rfl) (by kernel_rfl) (fun L0 => v_nil rfl rfl) ?_
             refine h_take 18 rfl rfl (by kernel_rfl) (by kernel_rfl) (by kernel_rfl) (fun L0 => v_fieldAddr (q := ⟨m53, 1, none⟩) rfl rfl Try.underlying54 rfl ti43 rfl) ?_
             refine h_one 19 rfl (by kernel_rfl) ?_
             refine l_in2 (l_f1 ?_)
             refine o_store1 rfl rfl rfl ti43 rfl rfl ?_
             refine l_nil (q_out2 (h_next ?_))
             refine h_done (by kernel_rfl) ?_
             refine q_in2 (q_block (q_then (c_region (o_move rfl rfl ?_))))
             refine o_bin rfl rfl rfl (b_sub (show IntKind.u64.wrap ((m : Int) - 1) = ((m - 1 : Nat) : Int) from by rw [wrap_u64 (by omega) (by omega)]; omega)) ?_
             refine o_assign rfl rfl (l_nil ?_)
             have hxP : proj (⟨bts out60, ⟨decide (((byteR ys60).1.toNat : Int) = 1), ⟨a70, out70, c70⟩, ((numR 0 0 ys70).1 : Int), ((numR 0 0 ys75).1 : Int)⟩⟩ : ItA) = rowP yse := by unfold rowP rdKey rdVal rdCnt rdHas; rw [e3, ← f60, ← f65, ← f75, ← u8dec, ← hout60, ← hout70]; rfl
             refine qP p4 (qP p3 (qP p3 (qP p3 (qP p5 (qP p5 ?_)))))
             refine q_conv (L' := vals (xs ++ [(⟨bts out60, ⟨decide (((byteR ys60).1.toNat : Int) = 1), ⟨a70, out70, c70⟩, ((numR 0 0 ys70).1 : Int), ((numR 0 0 ys75).1 : Int)⟩⟩ : ItA)]) :: _) (fun w S => Sat.vals_app (x := (⟨bts out60, ⟨decide (((byteR ys60).1.toNat : Int) = 1), ⟨a70, out70, c70⟩, ((numR 0 0 ys70).1 : Int), ((numR 0 0 ys75).1 : Int)⟩⟩ : ItA)) S) ?_
             refine qP p4 (qT (qP p3 (qP p1 (qP p3 (qP p3 ?_)))))
             exact q_round (m - 1, i80, ys80, xs ++ [(⟨bts out60, ⟨decide (((byteR ys60).1.toNat : Int) = 1), ⟨a70, out70, c70⟩, ((numR 0 0 ys70).1 : Int), ((numR 0 0 ys75).1 : Int)⟩⟩ : ItA)], a166, c166) (by exact ⟨by dsimp only; omega, he80, hdr.on (by omega) hyl hgr hxP hkP f80⟩) (by (try dsimp only); omega) ⟨vr, vr, vr, vr, trivial⟩ (fun w S => S)
            · -- 15 comes first
             refine l_in2 ?_
             refine o_lit e_Row_ok rfl Try.underlying43 rfl rfl rfl (lit_ok rfl) [(⟨bts out60, ⟨decide (((byteR ys60).1.toNat : Int) = 1), ⟨a70, out70, c70⟩, ((numR 0 0 ys70).1 : Int), ((numR 0 0 ys75).1 : Int)⟩⟩ : ItA)] rfl rfl fun a165 => ?_
             refine l_nil (q_out3 (h_next ?_))
             refine h_one 4 rfl (by kernel_rfl) ?_
             refine l_in3 ?_
             refine o_load1 rfl rfl Try.underlying43 rfl (rd_mem 1 rfl rfl) ?_
             refine l_nil (q_out3 (h_next ?_))
             refine h_one 16 rfl (by kernel_rfl) ?_
             refine l_in3 (l_f2 ?_)
             refine o_append e_Row_ok rfl rfl rfl Try.underlying43 (rds_own e_Row_ok 1 rfl) (by show (_ + _) * 64 ≤ _; (try simp only [List.length_append, List.length_cons, List.length_nil]); omega) (by (try simp only [List.length_append, List.length_cons, List.length_nil]); omega) fun a166 c166 => ?_
             refine l_f1 ?_
             refine l_drop ?_
             refine l_nil (q_out2 (h_next ?_))
             refine h_take 17 rfl rfl (by kernel_rfl) (by kernel_rfl) (by kernel_rfl) (fun L0 => v_nil rfl rfl) ?_
             refine h_take 18 rfl rfl (by kernel_rfl) (by kernel_rfl) (by kernel_rfl) (fun L0 => v_fieldAddr (q := ⟨m53, 1, none⟩) rfl rfl Try.underlying54 rfl ti43 rfl) ?_
             refine h_one 19 rfl (by kernel_rfl) ?_
             refine l_in2 (l_f1 ?_)
             refine o_store1 rfl rfl rfl ti43 rfl rfl ?_
             refine l_nil (q_out2 (h_next ?_))
             refine h_done (by kernel_rfl) ?_
             refine q_in2 (q_block (q_then (c_region (o_move rfl rfl ?_))))
             refine o_bin rfl rfl rfl (b_sub (show IntKind.u64.wrap ((m : Int) - 1) = ((m - 1 : Nat) : Int) from by rw [wrap_u64 (by omega) (by omega)]; omega)) ?_
             refine o_assign rfl rfl (l_nil ?_)
             have hxP : proj (⟨bts out60, ⟨decide (((byteR ys60).1.toNat : Int) = 1), ⟨a70, out70, c70⟩, ((numR 0 0 ys70).1 : Int), ((numR 0 0 ys75).1 : Int)⟩⟩ : ItA) = rowP yse := by unfold rowP rdKey rdVal rdCnt rdHas; rw [e3, ← f60, ← f65, ← f75, ← u8dec, ← hout60, ← hout70]; rfl
             refine qP p4 (qP p3 (qP p3 (qP p3 (qP p5 (qP p5 ?_)))))
             refine q_conv (L' := vals (xs ++ [(⟨bts out60, ⟨decide (((byteR ys60).1.toNat : Int) = 1), ⟨a70, out70, c70⟩, ((numR 0 0 ys70).1 : Int), ((numR 0 0 ys75).1 : Int)⟩⟩ : ItA)]) :: _) (fun w S => Sat.vals_app (x := (⟨bts out60, ⟨decide (((byteR ys60).1.toNat : Int) = 1), ⟨a70, out70, c70⟩, ((numR 0 0 ys70).1 : Int), ((numR 0 0 ys75).1 : Int)⟩⟩ : ItA)) S) ?_
             refine qP p4 (qT (qP p3 (qP p1 (qP p3 (qP p3 ?_)))))
             exact q_round (m - 1, i80, ys80, xs ++ [(⟨bts out60, ⟨decide (((byteR ys60).1.toNat : Int) = 1), ⟨a70, out70, c70⟩, ((numR 0 0 ys70).1 : Int), ((numR 0 0 ys75).1 : Int)⟩⟩ : ItA)], a166, c166) (by exact ⟨by dsimp only; omega, he80, hdr.on (by omega) hyl hgr hxP hkP f80⟩) (by (try dsimp only); omega) ⟨vr, vr, vr, vr, trivial⟩ (fun w S => S)
          · -- hne False
           refine c_quiet (by kernel_rfl) (by kernel_rfl) ?_
           refine Qt.o_val rfl (v_move rfl rfl) ?_
           refine Qt.o_val rfl (v_bin rfl rfl rfl b_geq) ?_
           refine Qt.l_eq (t := 136) (v' := .bool false) rfl (show _ = Value.bool false from by rw [decide_eq_false (by omega)]) ?_
           refine Qt.o_val rfl (v_move rfl rfl) ?_
           refine Qt.o_no rfl rfl rfl rfl ?_
           refine Qt.o_no rfl rfl rfl rfl ?_
           refine Qt.o_no rfl rfl rfl rfl ?_
           refine Qt.o_no rfl rfl rfl rfl ?_
           refine Qt.o_no rfl rfl rfl rfl ?_
           refine Qt.o_no rfl rfl rfl rfl ?_
           refine Qt.o_no rfl rfl rfl rfl ?_
           refine Qt.o_no rfl rfl rfl rfl ?_
           refine Qt.o_no rfl rfl rfl rfl ?_
           refine Qt.o_no rfl rfl rfl rfl ?_
           refine Qt.o_no rfl rfl rfl rfl ?_
           refine Qt.o_val rfl (v_pick_false rfl rfl rfl) ?_
           refine Qt.l_nil ?_
           refine q_then (c_false rfl (c_skip (q_then ?_)))
           have hkP : ∀ p ∈ xs, strlt p.f_key (bts out60) := fun p hp => by have h9 := List.length_pos_of_mem hp; omega
           refine cP p4 (cP p4 (cP p5 (cP p5 (cP p5 (cP p5 (cP p3 (cP p3 (cP p3 (cP p3 ?_)))))))))
           refine cP p5 (cP p5 ?_)
           refine c_heldF [blk m53 (.cells #[.int .i64 n, .slice ax (xs).length cx] 54 (0, 0)), row e_Row.T e_Row.sz ax (xs).length cx (flat e_Row xs)] (blk ke (.cells #[.slice a (bs).length c, .int .i64 (i80 : Int)] 92 (0, 0)) :: row e8.T e8.sz a70 (out70).length c70 (flat e8 out70) :: row e8.T e8.sz a60 (out60).length c60 (flat e8 out60) :: vals xs :: F) (by kernel_rfl) ?_
           refine h_take 0 rfl rfl (by kernel_rfl) (by kernel_rfl) (by kernel_rfl) (fun L0 => v_move rfl rfl) ?_
           refine h_take 1 rfl rfl (by kernel_rfl) (by kernel_rfl) (by kernel_rfl) (fun L0 => v_move rfl rfl) ?_
           refine h_take 2 rfl rfl (by kernel_rfl) (by kernel_rfl) (by kernel_rfl) (fun L0 => v_nil rfl rfl) ?_
           refine h_take 3 rfl rfl (by kernel_rfl) (by kernel_rfl) (by kernel_rfl) (fun L0 => v_fieldAddr (q := ⟨m53, 1, none⟩) rfl rfl Try.underlying54 rfl ti43 rfl) ?_
           refine h_take 5 rfl rfl (by kernel_rfl) (by kernel_rfl) (by kernel_rfl) (fun L0 => v_move rfl rfl) ?_
           refine h_take 6 rfl rfl (by kernel_rfl) (by kernel_rfl) (by kernel_rfl) (fun L0 => v_bytesStr (e := e8) rfl rfl rfl Try.underlying23 Try.underlying5 Try.underlying9 (rds_own e8_ok 2 rfl)) ?_
           refine h_take 7 rfl rfl (by kernel_rfl) (by kernel_rfl) (by kernel_rfl) (fun L0 => v_move rfl rfl) ?_
           refine h_take 8 rfl rfl (by kernel_rfl) (by kernel_rfl) (by kernel_rfl) (fun L0 => v_bin rfl rfl rfl b_eql) ?_
           refine h_take 9 rfl rfl (by kernel_rfl) (by kernel_rfl) (by kernel_rfl) (fun L0 => v_move rfl rfl) ?_
           refine h_take 10 rfl rfl (by kernel_rfl) (by kernel_rfl) (by kernel_rfl) (fun L0 => v_move rfl rfl) ?_
           refine h_take 11 rfl rfl (by kernel_rfl) (by kernel_rfl) (by kernel_rfl) (fun L0 => v_int rfl rfl Try.underlying34 Try.underlying3 (wrap_i64 (by omega) (by omega))) ?_
           refine h_take 12 rfl rfl (by kernel_rfl) (by kernel_rfl) (by kernel_rfl) (fun L0 => v_move rfl rfl) ?_
           refine h_take 13 rfl rfl (by kernel_rfl) (by kernel_rfl) (by kernel_rfl) (fun L0 => v_build rfl sp36 ti36 rfl ((fill_cons (cells' := [.bool (decide (((byteR ys60).1.toNat : Int) = 1)), .slice none 0 0, .int .i64 0, .int .u64 0]) rfl rfl rfl rfl (fill_cons (cells' := [.bool (decide (((byteR ys60).1.toNat : Int) = 1)), .slice a70 (out70).length c70, .int .i64 0, .int .u64 0]) rfl rfl rfl rfl (fill_cons (cells' := [.bool (decide (((byteR ys60).1.toNat : Int) = 1)), .slice a70 (out70).length c70, .int .i64 ((numR 0 0 ys70).1 : Int), .int .u64 0]) rfl rfl rfl rfl (fill_cons (cells' := [.bool (decide (((byteR ys60).1.toNat : Int) = 1)), .slice a70 (out70).length c70, .int .i64 ((numR 0 0 ys70).1 : Int), .int .u64 ((numR 0 0 ys75).1 : Int)]) rfl rfl rfl rfl fill_nil)))))) ?_
           refine h_take 14 rfl rfl (by kernel_rfl) (by kernel_rfl) (by kernel_rfl) (fun L0 => v_build rfl sp49 ti49 rfl ((fill_cons (cells' := [.string (bts out60), .bool false, .slice none 0 0, .int .i64 0, .int .u64 0]) rfl rfl rfl rfl (fill_cons (cells' := [.string (bts out60), .bool (decide (((byteR ys60).1.toNat : Int) = 1)), .slice a70 (out70).length c70, .int .i64 ((numR 0 0 ys70).1 : Int), .int .u64 ((numR 0 0 ys75).1 : Int)]) rfl rfl rfl rfl fill_nil)))) ?_
           refine h_many (is := [4, 15]) (by kernel_rfl) (by decide) (forall_cons ⟨_, rfl, ?_⟩ (forall_cons ⟨_, rfl, ?_⟩ forall_nil))
           · -- 4 comes first
            refine l_in2 ?_
            refine o_load1 rfl rfl Try.underlying43 rfl (rd_mem 0 rfl rfl) ?_
            refine l_nil (q_out2 (h_next ?_))
            refine h_one 15 rfl (by kernel_rfl) ?_
            refine l_in2 ?_
            refine o_lit e_Row_ok rfl Try.underlying43 rfl rfl rfl (lit_ok rfl) [(⟨bts out60, ⟨decide (((byteR ys60).1.toNat : Int) = 1), ⟨a70, out70, c70⟩, ((numR 0 0 ys70).1 : Int), ((numR 0 0 ys75).1 : Int)⟩⟩ : ItA)] rfl rfl fun a165 => ?_
            refine l_nil (q_out3 (h_next ?_))
            refine h_one 16 rfl (by kernel_rfl) ?_
            refine l_in3 (l_f2 ?_)
            refine o_append e_Row_ok rfl rfl rfl Try.underlying43 (rds_own e_Row_ok 1 rfl) (by show (_ + _) * 64 ≤ _; (try simp only [List.length_append, List.length_cons, List.length_nil]); omega) (by (try simp only [List.length_append, List.length_cons, List.length_nil]); omega) fun a166 c166 => ?_
            refine l_f1 ?_
            refine l_drop ?_
            refine l_nil (q_out2 (h_next ?_))
            refine h_take 17 rfl rfl (by kernel_rfl) (by kernel_rfl) (by kernel_rfl) (fun L0 => v_nil rfl rfl) ?_
            refine h_take 18 rfl rfl (by kernel_rfl) (by kernel_rfl) (by kernel_rfl) (fun L0 => v_fieldAddr (q := ⟨m53, 1, none⟩) rfl rfl Try.underlying54 rfl ti43 rfl) ?_
            refine h_one 19 rfl (by kernel_rfl) ?_
            refine l_in2 (l_f1 ?_)
            refine o_store1 rfl rfl rfl ti43 rfl rfl ?_
            refine l_nil (q_out2 (h_next ?_))
            refine h_done (by kernel_rfl) ?_
            refine q_in2 (q_block (q_then (c_region (o_move rfl rfl ?_))))
            refine o_bin rfl rfl rfl (b_sub (show IntKind.u64.wrap ((m : Int) - 1) = ((m - 1 : Nat) : Int) from by rw [wrap_u64 (by omega) (by omega)]; omega)) ?_
            refine o_assign rfl rfl (l_nil ?_)
            have hxP : proj (⟨bts out60, ⟨decide (((byteR ys60).1.toNat : Int) = 1), ⟨a70, out70, c70⟩, ((numR 0 0 ys70).1 : Int), ((numR 0 0 ys75).1 : Int)⟩⟩ : ItA) = rowP yse := by unfold rowP rdKey rdVal rdCnt rdHas; rw [e3, ← f60, ← f65, ← f75, ← u8dec, ← hout60, ← hout70]; rfl
            refine qP p4 (qP p3 (qP p3 (qP p3 (qP p5 (qP p5 ?_)))))
            refine q_conv (L' := vals (xs ++ [(⟨bts out60, ⟨decide (((byteR ys60).1.toNat : Int) = 1), ⟨a70, out70, c70⟩, ((numR 0 0 ys70).1 : Int), ((numR 0 0 ys75).1 : Int)⟩⟩ : ItA)]) :: _) (fun w S => Sat.vals_app (x := (⟨bts out60, ⟨decide (((byteR ys60).1.toNat : Int) = 1), ⟨a70, out70, c70⟩, ((numR 0 0 ys70).1 : Int), ((numR 0 0 ys75).1 : Int)⟩⟩ : ItA)) S) ?_
            refine qP p4 (qT (qP p3 (qP p1 (qP p3 (qP p3 ?_)))))
            exact q_round (m - 1, i80, ys80, xs ++ [(⟨bts out60, ⟨decide (((byteR ys60).1.toNat : Int) = 1), ⟨a70, out70, c70⟩, ((numR 0 0 ys70).1 : Int), ((numR 0 0 ys75).1 : Int)⟩⟩ : ItA)], a166, c166) (by exact ⟨by dsimp only; omega, he80, hdr.on (by omega) hyl hgr hxP hkP f80⟩) (by (try dsimp only); omega) ⟨vr, vr, vr, vr, trivial⟩ (fun w S => S)
           · -- 15 comes first
            refine l_in2 ?_
            refine o_lit e_Row_ok rfl Try.underlying43 rfl rfl rfl (lit_ok rfl) [(⟨bts out60, ⟨decide (((byteR ys60).1.toNat : Int) = 1), ⟨a70, out70, c70⟩, ((numR 0 0 ys70).1 : Int), ((numR 0 0 ys75).1 : Int)⟩⟩ : ItA)] rfl rfl fun a165 => ?_
            refine l_nil (q_out3 (h_next ?_))
            refine h_one 4 rfl (by kernel_rfl) ?_
            refine l_in3 ?_
            refine o_load1 rfl rfl Try.underlying43 rfl (rd_mem 1 rfl rfl) ?_
            refine l_nil (q_out3 (h_next ?_))
            refine h_one 16 rfl (by kernel_rfl) ?_
            refine l_in3 (l_f2 ?_)
            refine o_append e_Row_ok rfl rfl rfl Try.underlying43 (rds_own e_Row_ok 1 rfl) (by show (_ + _) * 64 ≤ _; (try simp only [List.length_append, List.length_cons, List.length_nil]); omega) (by (try simp only [List.length_append, List.length_cons, List.length_nil]); omega) fun a166 c166 => ?_
            refine l_f1 ?_
            refine l_drop ?_
            refine l_nil (q_out2 (h_next ?_))
            refine h_take 17 rfl rfl (by kernel_rfl) (by kernel_rfl) (by kernel_rfl) (fun L0 => v_nil rfl rfl) ?_
            refine h_take 18 rfl rfl (by kernel_rfl) (by kernel_rfl) (by kernel_rfl) (fun L0 => v_fieldAddr (q := ⟨m53, 1, none⟩) rfl rfl Try.underlying54 rfl ti43 rfl) ?_
            refine h_one 19 rfl (by kernel_rfl) ?_
            refine l_in2 (l_f1 ?_)
            refine o_store1 rfl rfl rfl ti43 rfl rfl ?_
            refine l_nil (q_out2 (h_next ?_))
            refine h_done (by kernel_rfl) ?_
            refine q_in2 (q_block (q_then (c_region (o_move rfl rfl ?_))))
            refine o_bin rfl rfl rfl (b_sub (show IntKind.u64.wrap ((m : Int) - 1) = ((m - 1 : Nat) : Int) from by rw [wrap_u64 (by omega) (by omega)]; omega)) ?_
            refine o_assign rfl rfl (l_nil ?_)
            have hxP : proj (⟨bts out60, ⟨decide (((byteR ys60).1.toNat : Int) = 1), ⟨a70, out70, c70⟩, ((numR 0 0 ys70).1 : Int), ((numR 0 0 ys75).1 : Int)⟩⟩ : ItA) = rowP yse := by unfold rowP rdKey rdVal rdCnt rdHas; rw [e3, ← f60, ← f65, ← f75, ← u8dec, ← hout60, ← hout70]; rfl
            refine qP p4 (qP p3 (qP p3 (qP p3 (qP p5 (qP p5 ?_)))))
            refine q_conv (L' := vals (xs ++ [(⟨bts out60, ⟨decide (((byteR ys60).1.toNat : Int) = 1), ⟨a70, out70, c70⟩, ((numR 0 0 ys70).1 : Int), ((numR 0 0 ys75).1 : Int)⟩⟩ : ItA)]) :: _) (fun w S => Sat.vals_app (x := (⟨bts out60, ⟨decide (((byteR ys60).1.toNat : Int) = 1), ⟨a70, out70, c70⟩, ((numR 0 0 ys70).1 : Int), ((numR 0 0 ys75).1 : Int)⟩⟩ : ItA)) S) ?_
            refine qP p4 (qT (qP p3 (qP p1 (qP p3 (qP p3 ?_)))))
            exact q_round (m - 1, i80, ys80, xs ++ [(⟨bts out60, ⟨decide (((byteR ys60).1.toNat : Int) = 1), ⟨a70, out70, c70⟩, ((numR 0 0 ys70).1 : Int), ((numR 0 0 ys75).1 : Int)⟩⟩ : ItA)], a166, c166) (by exact ⟨by dsimp only; omega, he80, hdr.on (by omega) hyl hgr hxP hkP f80⟩) (by (try dsimp only); omega) ⟨vr, vr, vr, vr, trivial⟩ (fun w S => S)
        · -- h14F
         have h14b := h14
         try simp only [decide_eq_false_iff_not, Int.not_lt, Int.not_le] at h14
         refine o_no rfl rfl rfl rfl (o_no rfl rfl rfl rfl (o_no rfl rfl rfl rfl (o_no rfl rfl rfl rfl (o_no rfl rfl rfl rfl (o_no rfl rfl rfl rfl (o_no rfl rfl rfl rfl (o_yes rfl rfl rfl (o_pick_false rfl rfl rfl (o_pick_false rfl rfl rfl ?_)))))))))
         refine l_nil (q_then (c_false rfl (c_skip (q_then (c_seq ?_)))))
         have hxl := hdr.len
         have hgr := good_row (t := yse) hn3 (by rw [← f60, ← f65, ← f70, ← f75]; omega) (by show (byteR (y1 yse)).1.toNat ≤ 1; rw [← f60]; omega) (by show (((numR 0 0 (y3 yse)).1 : Nat) : Int) < n; rw [← f70]; omega) (by show ¬ (byteR (y1 yse)).1.toNat = 0 ∨ ((textR (y2 yse)).1.length = 0 ∧ ¬ (numR 0 0 (y4 yse)).1 = 0); rw [← f60, ← f65, ← f75, ← hout70]; omega) (by show ¬ (numR 0 0 (y4 yse)).1 = 0 ∨ (((numR 0 0 (y3 yse)).1 : Nat) : Int) = dflt (bts (textR yse).1) n; rw [← f70, ← f75, ← hout60]; first | exact .inl (by omega) | exact .inr (by omega))
         have hh3 : (numR 0 0 ys70).1 < 3 := by omega
         have e3 : rdHome yse % 3 = (numR 0 0 ys70).1 := by rw [f70]; exact Nat.mod_eq_of_lt (by show (numR 0 0 (y3 yse)).1 < 3; rw [← f70]; exact hh3)
         refine c_region (o_move rfl rfl (o_nil rfl rfl ?_))
         refine o_fieldAddr (q := ⟨m53, 1, none⟩) rfl rfl Try.underlying54 rfl ti43 rfl ?_
         refine o_load1 rfl rfl Try.underlying43 rfl (rd_mem 3 rfl rfl) ?_
         refine o_len rfl rfl Try.underlying43 ?_
         refine o_bin rfl rfl rfl (b_sub (wrap_i64 (by omega) (by omega))) ?_
         refine o_assign rfl rfl (l_nil (q_then (c_seq (c_seq ?_))))
         refine (Classical.em (0 < xs.length)).elim (fun hne => ?_) (fun hne => ?_)
         · -- hne True
          refine c_fact (p := ∃ ad, ax = some ad) (rds_some (e := e_Row) (xs := xs) (rds_own e_Row_ok 4 rfl) (by intro h0; rw [h0] at hne; simp at hne)) ?_
          rintro ⟨adx, eadx⟩
          refine c_quiet (by kernel_rfl) (by kernel_rfl) ?_
          refine Qt.o_val rfl (v_move rfl rfl) ?_
          refine Qt.o_val rfl (v_bin rfl rfl rfl b_geq) ?_
          refine Qt.l_eq (t := 136) (v' := .bool true) rfl (show _ = Value.bool true from by rw [decide_eq_true (by omega)]) ?_
          refine Qt.o_val rfl (v_move rfl rfl) (Qt.o_yes rfl rfl rfl (Qt.o_val rfl (v_move rfl rfl) (Qt.o_yes rfl rfl rfl (Qt.o_val rfl (v_nil rfl rfl) (Qt.o_yes rfl rfl rfl ?_)))))
          refine Qt.o_val rfl (v_fieldAddr (q := ⟨m53, 1, none⟩) rfl rfl Try.underlying54 rfl ti43 rfl) ?_
          refine Qt.o_yes rfl rfl rfl ?_
          refine Qt.o_val rfl (v_load1 rfl rfl Try.underlying43 rfl (rd_mem 3 rfl rfl)) ?_
          refine Qt.o_yes rfl rfl rfl (Qt.o_val rfl (v_move rfl rfl) (Qt.o_yes rfl rfl rfl ?_))
          refine Qt.o_val rfl (v_indexK e_Row_ok eadx rfl rfl rfl Try.underlying43 (by omega) (by omega)) ?_
          obtain ⟨x143, hx143⟩ : ∃ x, (xs)[(((xs).length : Int) - 1).toNat]? = some x := ⟨_, List.getElem?_eq_getElem (by omega)⟩
          refine Qt.o_yes rfl rfl rfl ?_
          refine Qt.o_val rfl (v_fieldAddr rfl rfl Try.underlying49 rfl ti9 (Addr.add_add' _ _ _)) ?_
          refine Qt.o_yes rfl rfl rfl ?_
          refine Qt.o_val rfl (v_load1 rfl rfl Try.underlying9 rfl (rd_sl e_Row_ok eadx (rds_own e_Row_ok 4 rfl) hx143 rfl)) ?_
          refine Qt.o_yes rfl rfl rfl (Qt.o_val rfl (v_move rfl rfl) (Qt.o_yes rfl rfl rfl ?_))
          refine Qt.o_val rfl (v_bytesStr (e := e8) rfl rfl rfl Try.underlying23 Try.underlying5 Try.underlying9 (rds_own e8_ok 2 rfl)) ?_
          refine Qt.o_yes rfl rfl rfl ?_
          refine Qt.o_val rfl (v_bin rfl rfl rfl b_sgeq) ?_
          refine Qt.o_val rfl (v_pick_true rfl rfl rfl) ?_
          refine Qt.l_nil ?_
          refine q_then ?_
          refine c_cond rfl (fun h17 => ?_) (fun h17 => ?_)
          · -- h17T
           have h17b := h17
           try simp only [decide_eq_true_eq, decide_eq_false_iff_not, Bool.not_eq_eq_eq_not, Bool.not_true, Bool.not_false, Bool.not_eq_true', Bool.not_eq_false', Int.not_lt, Int.not_le, Bool.or_eq_true, Bool.and_eq_true] at h17
           refine c_seq (c_region (o_assign rfl rfl (o_assign rfl rfl (l_nil (q_then (c_ret (q_pass_ret ?_)))))))
           refine q_block_ret ?_
           refine q_pass_ret (q_pass_ret ?_)
           refine q_block_ret ?_
           refine q_pass_ret (qT (qT (qT (qT (qT (qT ?_))))))
           exact f_ret (r_two rfl rfl rfl) (⟨rfl, rfl⟩) (fun w S => S)
          · -- h17F
           have h17b := h17
           try simp only [decide_eq_true_eq, decide_eq_false_iff_not, Bool.not_eq_eq_eq_not, Bool.not_true, Bool.not_false, Bool.not_eq_true', Bool.not_eq_false', Int.not_lt, Int.not_le, Bool.or_eq_true, Bool.and_eq_true] at h17
           refine c_skip (q_then ?_)
           have hkP : ∀ p ∈ xs, strlt p.f_key (bts out60) := last_all hdr.srt (show xs[((xs.length : Int) - 1).toNat]? = some x143 from hx143) (by omega) (show slt x143.f_key (bts out60) = true by first | assumption | simp_all)
           refine cP p4 (cP p4 (cP p5 (cP p5 (cP p5 (cP p5 (cP p3 (cP p3 (cP p3 (cP p3 ?_)))))))))
           refine cP p5 (cP p5 ?_)
           refine c_heldF [blk m53 (.cells #[.int .i64 n, .slice ax (xs).length cx] 54 (0, 0)), row e_Row.T e_Row.sz ax (xs).length cx (flat e_Row xs)] (blk ke (.cells #[.slice a (bs).length c, .int .i64 (i80 : Int)] 92 (0, 0)) :: row e8.T e8.sz a70 (out70).length c70 (flat e8 out70) :: row e8.T e8.sz a60 (out60).length c60 (flat e8 out60) :: vals xs :: F) (by kernel_rfl) ?_
           refine h_take 0 rfl rfl (by kernel_rfl) (by kernel_rfl) (by kernel_rfl) (fun L0 => v_move rfl rfl) ?_
           refine h_take 1 rfl rfl (by kernel_rfl) (by kernel_rfl) (by kernel_rfl) (fun L0 => v_move rfl rfl) ?_
           refine h_take 2 rfl rfl (by kernel_rfl) (by kernel_rfl) (by kernel_rfl) (fun L0 => v_nil rfl rfl) ?_
           refine h_take 3 rfl rfl (by kernel_rfl) (by kernel_rfl) (by kernel_rfl) (fun L0 => v_fieldAddr (q := ⟨m53, 1, none⟩) rfl rfl Try.underlying54 rfl ti43 rfl) ?_
           refine h_take 5 rfl rfl (by kernel_rfl) (by kernel_rfl) (by kernel_rfl) (fun L0 => v_move rfl rfl) ?_
           refine h_take 6 rfl rfl (by kernel_rfl) (by kernel_rfl) (by kernel_rfl) (fun L0 => v_bytesStr (e := e8) rfl rfl rfl Try.underlying23 Try.underlying5 Try.underlying9 (rds_own e8_ok 2 rfl)) ?_
           refine h_take 7 rfl rfl (by kernel_rfl) (by kernel_rfl) (by kernel_rfl) (fun L0 => v_move rfl rfl) ?_
           refine h_take 8 rfl rfl (by kernel_rfl) (by kernel_rfl) (by kernel_rfl) (fun L0 => v_bin rfl rfl rfl b_eql) ?_
           refine h_take 9 rfl rfl (by kernel_rfl) (by kernel_rfl) (by kernel_rfl) (fun L0 => v_move rfl rfl) ?_
           refine h_take 10 rfl rfl (by kernel_rfl) (by kernel_rfl) (by kernel_rfl) (fun L0 => v_move rfl rfl) ?_
           refine h_take 11 rfl rfl (by kernel_rfl) (by kernel_rfl) (by kernel_rfl) (fun L0 => v_int rfl rfl Try.underlying34 Try.underlying3 (wrap_i64 (by omega) (by omega))) ?_
           refine h_take 12 rfl rfl (by kernel_rfl) (by kernel_rfl) (by kernel_rfl) (fun L0 => v_move rfl rfl) ?_
           refine h_take 13 rfl rfl (by kernel_rfl) (by kernel_rfl) (by kernel_rfl) (fun L0 => v_build rfl sp36 ti36 rfl ((fill_cons (cells' := [.bool (decide (((byteR ys60).1.toNat : Int) = 1)), .slice none 0 0, .int .i64 0, .int .u64 0]) rfl rfl rfl rfl (fill_cons (cells' := [.bool (decide (((byteR ys60).1.toNat : Int) = 1)), .slice a70 (out70).length c70, .int .i64 0, .int .u64 0]) rfl rfl rfl rfl (fill_cons (cells' := [.bool (decide (((byteR ys60).1.toNat : Int) = 1)), .slice a70 (out70).length c70, .int .i64 ((numR 0 0 ys70).1 : Int), .int .u64 0]) rfl rfl rfl rfl (fill_cons (cells' := [.bool (decide (((byteR ys60).1.toNat : Int) = 1)), .slice a70 (out70).length c70, .int .i64 ((numR 0 0 ys70).1 : Int), .int .u64 ((numR 0 0 ys75).1 : Int)]) rfl rfl rfl rfl fill_nil)))))) ?_
           refine h_take 14 rfl rfl (by kernel_rfl) (by kernel_rfl) (by kernel_rfl) (fun L0 => v_build rfl sp49 ti49 rfl ((fill_cons (cells' := [.string (bts out60), .bool false, .slice none 0 0, .int .i64 0, .int .u64 0]) rfl rfl rfl rfl (fill_cons (cells' := [.string (bts out60), .bool (decide (((byteR ys60).1.toNat : Int) = 1)), .slice a70 (out70).length c70, .int .i64 ((numR 0 0 ys70).1 : Int), .int .u64 ((numR 0 0 ys75).1 : Int)]) rfl rfl rfl rfl fill_nil)))) ?_
           refine h_many (is := [4, 15]) (by kernel_rfl) (by decide) (forall_cons ⟨_, rfl, ?_⟩ (forall_cons ⟨_, rfl, ?_⟩ forall_nil))
           · -- 4 comes first
            refine l_in2 ?_
            refine o_load1 rfl rfl Try.underlying43 rfl (rd_mem 0 rfl rfl) ?_
            refine l_nil (q_out2 (h_next ?_))
            refine h_one 15 rfl (by kernel_rfl) ?_
            refine l_in2 ?_
            refine o_lit e_Row_ok rfl Try.underlying43 rfl rfl rfl (lit_ok rfl) [(⟨bts out60, ⟨decide (((byteR ys60).1.toNat : Int) = 1), ⟨a70, out70, c70⟩, ((numR 0 0 ys70).1 : Int), ((numR 0 0 ys75).1 : Int)⟩⟩ : ItA)] rfl rfl fun a165 => ?_
            refine l_nil (q_out3 (h_next ?_))
            refine h_one 16 rfl (by kernel_rfl) ?_
            refine l_in3 (l_f2 ?_)
            refine o_append e_Row_ok rfl rfl rfl Try.underlying43 (rds_own e_Row_ok 1 rfl) (by show (_ + _) * 64 ≤ _; (try simp only [List.length_append, List.length_cons, List.length_nil]); omega) (by (try simp only [List.length_append, List.length_cons, List.length_nil]); omega) fun a166 c166 => ?_
            refine l_f1 ?_
            refine l_drop ?_
            refine l_nil (q_out2 (h_next ?_))
            refine h_take 17 rfl rfl (by kernel_rfl) (by kernel_rfl) (by kernel_rfl) (fun L0 => v_nil rfl rfl) ?_
            refine h_take 18 rfl rfl (by kernel_rfl) (by kernel_rfl) (by kernel_rfl) (fun L0 => v_fieldAddr (q := ⟨m53, 1, none⟩) rfl rfl Try.underlying54 rfl ti43 rfl) ?_
            refine h_one 19 rfl (by kernel_rfl) ?_
            refine l_in2 (l_f1 ?_)
            refine o_store1 rfl rfl rfl ti43 rfl rfl ?_
            refine l_nil (q_out2 (h_next ?_))
            refine h_done (by kernel_rfl) ?_
            refine q_in2 (q_block (q_then (c_region (o_move rfl rfl ?_))))
            refine o_bin rfl rfl rfl (b_sub (show IntKind.u64.wrap ((m : Int) - 1) = ((m - 1 : Nat) : Int) from by rw [wrap_u64 (by omega) (by omega)]; omega)) ?_
            refine o_assign rfl rfl (l_nil ?_)
            have hxP : proj (⟨bts out60, ⟨decide (((byteR ys60).1.toNat : Int) = 1), ⟨a70, out70, c70⟩, ((numR 0 0 ys70).1 : Int), ((numR 0 0 ys75).1 : Int)⟩⟩ : ItA) = rowP yse := by unfold rowP rdKey rdVal rdCnt rdHas; rw [e3, ← f60, ← f65, ← f75, ← u8dec, ← hout60, ← hout70]; rfl
            refine qP p4 (qP p3 (qP p3 (qP p3 (qP p5 (qP p5 ?_)))))
            refine q_conv (L' := vals (xs ++ [(⟨bts out60, ⟨decide (((byteR ys60).1.toNat : Int) = 1), ⟨a70, out70, c70⟩, ((numR 0 0 ys70).1 : Int), ((numR 0 0 ys75).1 : Int)⟩⟩ : ItA)]) :: _) (fun w S => Sat.vals_app (x := (⟨bts out60, ⟨decide (((byteR ys60).1.toNat : Int) = 1), ⟨a70, out70, c70⟩, ((numR 0 0 ys70).1 : Int), ((numR 0 0 ys75).1 : Int)⟩⟩ : ItA)) S) ?_
            refine qP p4 (qT (qP p3 (qP p1 (qP p3 (qP p3 ?_)))))
            exact q_round (m - 1, i80, ys80, xs ++ [(⟨bts out60, ⟨decide (((byteR ys60).1.toNat : Int) = 1), ⟨a70, out70, c70⟩, ((numR 0 0 ys70).1 : Int), ((numR 0 0 ys75).1 : Int)⟩⟩ : ItA)], a166, c166) (by exact ⟨by dsimp only; omega, he80, hdr.on (by omega) hyl hgr hxP hkP f80⟩) (by (try dsimp only); omega) ⟨vr, vr, vr, vr, trivial⟩ (fun w S => S)
           · -- 15 comes first
            refine l_in2 ?_
            refine o_lit e_Row_ok rfl Try.underlying43 rfl rfl rfl (lit_ok rfl) [(⟨bts out60, ⟨decide (((byteR ys60).1.toNat : Int) = 1), ⟨a70, out70, c70⟩, ((numR 0 0 ys70).1 : Int), ((numR 0 0 ys75).1 : Int)⟩⟩ : ItA)] rfl rfl fun a165 => ?_
            refine l_nil (q_out3 (h_next ?_))
            refine h_one 4 rfl (by kernel_rfl) ?_
            refine l_in3 ?_
            refine o_load1 rfl rfl Try.underlying43 rfl (rd_mem 1 rfl rfl) ?_
            refine l_nil (q_out3 (h_next ?_))
            refine h_one 16 rfl (by kernel_rfl) ?_
            refine l_in3 (l_f2 ?_)
            refine o_append e_Row_ok rfl rfl rfl Try.underlying43 (rds_own e_Row_ok 1 rfl) (by show (_ + _) * 64 ≤ _; (try simp only [List.length_append, List.length_cons, List.length_nil]); omega) (by (try simp only [List.length_append, List.length_cons, List.length_nil]); omega) fun a166 c166 => ?_
            refine l_f1 ?_
            refine l_drop ?_
            refine l_nil (q_out2 (h_next ?_))
            refine h_take 17 rfl rfl (by kernel_rfl) (by kernel_rfl) (by kernel_rfl) (fun L0 => v_nil rfl rfl) ?_
            refine h_take 18 rfl rfl (by kernel_rfl) (by kernel_rfl) (by kernel_rfl) (fun L0 => v_fieldAddr (q := ⟨m53, 1, none⟩) rfl rfl Try.underlying54 rfl ti43 rfl) ?_
            refine h_one 19 rfl (by kernel_rfl) ?_
            refine l_in2 (l_f1 ?_)
            refine o_store1 rfl rfl rfl ti43 rfl rfl ?_
            refine l_nil (q_out2 (h_next ?_))
            refine h_done (by kernel_rfl) ?_
            refine q_in2 (q_block (q_then (c_region (o_move rfl rfl ?_))))
            refine o_bin rfl rfl rfl (b_sub (show IntKind.u64.wrap ((m : Int) - 1) = ((m - 1 : Nat) : Int) from by rw [wrap_u64 (by omega) (by omega)]; omega)) ?_
            refine o_assign rfl rfl (l_nil ?_)
            have hxP : proj (⟨bts out60, ⟨decide (((byteR ys60).1.toNat : Int) = 1), ⟨a70, out70, c70⟩, ((numR 0 0 ys70).1 : Int), ((numR 0 0 ys75).1 : Int)⟩⟩ : ItA) = rowP yse := by unfold rowP rdKey rdVal rdCnt rdHas; rw [e3, ← f60, ← f65, ← f75, ← u8dec, ← hout60, ← hout70]; rfl
            refine qP p4 (qP p3 (qP p3 (qP p3 (qP p5 (qP p5 ?_)))))
            refine q_conv (L' := vals (xs ++ [(⟨bts out60, ⟨decide (((byteR ys60).1.toNat : Int) = 1), ⟨a70, out70, c70⟩, ((numR 0 0 ys70).1 : Int), ((numR 0 0 ys75).1 : Int)⟩⟩ : ItA)]) :: _) (fun w S => Sat.vals_app (x := (⟨bts out60, ⟨decide (((byteR ys60).1.toNat : Int) = 1), ⟨a70, out70, c70⟩, ((numR 0 0 ys70).1 : Int), ((numR 0 0 ys75).1 : Int)⟩⟩ : ItA)) S) ?_
            refine qP p4 (qT (qP p3 (qP p1 (qP p3 (qP p3 ?_)))))
            exact q_round (m - 1, i80, ys80, xs ++ [(⟨bts out60, ⟨decide (((byteR ys60).1.toNat : Int) = 1), ⟨a70, out70, c70⟩, ((numR 0 0 ys70).1 : Int), ((numR 0 0 ys75).1 : Int)⟩⟩ : ItA)], a166, c166) (by exact ⟨by dsimp only; omega, he80, hdr.on (by omega) hyl hgr hxP hkP f80⟩) (by (try dsimp only); omega) ⟨vr, vr, vr, vr, trivial⟩ (fun w S => S)
         · -- hne False
          refine c_quiet (by kernel_rfl) (by kernel_rfl) ?_
          refine Qt.o_val rfl (v_move rfl rfl) ?_
          refine Qt.o_val rfl (v_bin rfl rfl rfl b_geq) ?_
          refine Qt.l_eq (t := 136) (v' := .bool false) rfl (show _ = Value.bool false from by rw [decide_eq_false (by omega)]) ?_
          refine Qt.o_val rfl (v_move rfl rfl) ?_
          refine Qt.o_no rfl rfl rfl rfl ?_
          refine Qt.o_no rfl rfl rfl rfl ?_
          refine Qt.o_no rfl rfl rfl rfl ?_
          refine Qt.o_no rfl rfl rfl rfl ?_
          refine Qt.o_no rfl rfl rfl rfl ?_
          refine Qt.o_no rfl rfl rfl rfl ?_
          refine Qt.o_no rfl rfl rfl rfl ?_
          refine Qt.o_no rfl rfl rfl rfl ?_
          refine Qt.o_no rfl rfl rfl rfl ?_
          refine Qt.o_no rfl rfl rfl rfl ?_
          refine Qt.o_no rfl rfl rfl rfl ?_
          refine Qt.o_val rfl (v_pick_false rfl rfl rfl) ?_
          refine Qt.l_nil ?_
          refine q_then (c_false rfl (c_skip (q_then ?_)))
          have hkP : ∀ p ∈ xs, strlt p.f_key (bts out60) := fun p hp => by have h9 := List.length_pos_of_mem hp; omega
          refine cP p4 (cP p4 (cP p5 (cP p5 (cP p5 (cP p5 (cP p3 (cP p3 (cP p3 (cP p3 ?_)))))))))
          refine cP p5 (cP p5 ?_)
          refine c_heldF [blk m53 (.cells #[.int .i64 n, .slice ax (xs).length cx] 54 (0, 0)), row e_Row.T e_Row.sz ax (xs).length cx (flat e_Row xs)] (blk ke (.cells #[.slice a (bs).length c, .int .i64 (i80 : Int)] 92 (0, 0)) :: row e8.T e8.sz a70 (out70).length c70 (flat e8 out70) :: row e8.T e8.sz a60 (out60).length c60 (flat e8 out60) :: vals xs :: F) (by kernel_rfl) ?_
          refine h_take 0 rfl rfl (by kernel_rfl) (by kernel_rfl) (by kernel_rfl) (fun L0 => v_move rfl rfl) ?_
          refine h_take 1 rfl rfl (by kernel_rfl) (by kernel_rfl) (by kernel_rfl) (fun L0 => v_move rfl rfl) ?_
          refine h_take 2 rfl rfl (by kernel_rfl) (by kernel_rfl) (by kernel_rfl) (fun L0 => v_nil rfl rfl) ?_
          refine h_take 3 rfl rfl (by kernel_rfl) (by kernel_rfl) (by kernel_rfl) (fun L0 => v_fieldAddr (q := ⟨m53, 1, none⟩) rfl rfl Try.underlying54 rfl ti43 rfl) ?_
          refine h_take 5 rfl rfl (by kernel_rfl) (by kernel_rfl) (by kernel_rfl) (fun L0 => v_move rfl rfl) ?_
          refine h_take 6 rfl rfl (by kernel_rfl) (by kernel_rfl) (by kernel_rfl) (fun L0 => v_bytesStr (e := e8) rfl rfl rfl Try.underlying23 Try.underlying5 Try.underlying9 (rds_own e8_ok 2 rfl)) ?_
          refine h_take 7 rfl rfl (by kernel_rfl) (by kernel_rfl) (by kernel_rfl) (fun L0 => v_move rfl rfl) ?_
          refine h_take 8 rfl rfl (by kernel_rfl) (by kernel_rfl) (by kernel_rfl) (fun L0 => v_bin rfl rfl rfl b_eql) ?_
          refine h_take 9 rfl rfl (by kernel_rfl) (by kernel_rfl) (by kernel_rfl) (fun L0 => v_move rfl rfl) ?_
          refine h_take 10 rfl rfl (by kernel_rfl) (by kernel_rfl) (by kernel_rfl) (fun L0 => v_move rfl rfl) ?_
          refine h_take 11 rfl rfl (by kernel_rfl) (by kernel_rfl) (by kernel_rfl) (fun L0 => v_int rfl rfl Try.underlying34 Try.underlying3 (wrap_i64 (by omega) (by omega))) ?_
          refine h_take 12 rfl rfl (by kernel_rfl) (by kernel_rfl) (by kernel_rfl) (fun L0 => v_move rfl rfl) ?_
          refine h_take 13 rfl rfl (by kernel_rfl) (by kernel_rfl) (by kernel_rfl) (fun L0 => v_build rfl sp36 ti36 rfl ((fill_cons (cells' := [.bool (decide (((byteR ys60).1.toNat : Int) = 1)), .slice none 0 0, .int .i64 0, .int .u64 0]) rfl rfl rfl rfl (fill_cons (cells' := [.bool (decide (((byteR ys60).1.toNat : Int) = 1)), .slice a70 (out70).length c70, .int .i64 0, .int .u64 0]) rfl rfl rfl rfl (fill_cons (cells' := [.bool (decide (((byteR ys60).1.toNat : Int) = 1)), .slice a70 (out70).length c70, .int .i64 ((numR 0 0 ys70).1 : Int), .int .u64 0]) rfl rfl rfl rfl (fill_cons (cells' := [.bool (decide (((byteR ys60).1.toNat : Int) = 1)), .slice a70 (out70).length c70, .int .i64 ((numR 0 0 ys70).1 : Int), .int .u64 ((numR 0 0 ys75).1 : Int)]) rfl rfl rfl rfl fill_nil)))))) ?_
          refine h_take 14 rfl rfl (by kernel_rfl) (by kernel_rfl) (by kernel_rfl) (fun L0 => v_build rfl sp49 ti49 rfl ((fill_cons (cells' := [.string (bts out60), .bool false, .slice none 0 0, .int .i64 0, .int .u64 0]) rfl rfl rfl rfl (fill_cons (cells' := [.string (bts out60), .bool (decide (((byteR ys60).1.toNat : Int) = 1)), .slice a70 (out70).length c70, .int .i64 ((numR 0 0 ys70).1 : Int), .int .u64 ((numR 0 0 ys75).1 : Int)]) rfl rfl rfl rfl fill_nil)))) ?_
          refine h_many (is := [4, 15]) (by kernel_rfl) (by decide) (forall_cons ⟨_, rfl, ?_⟩ (forall_cons ⟨_, rfl, ?_⟩ forall_nil))
          · -- 4 comes first
           refine l_in2 ?_
           refine o_load1 rfl rfl Try.underlying43 rfl (rd_mem 0 rfl rfl) ?_
           refine l_nil (q_out2 (h_next ?_))
           refine h_one 15 rfl (by kernel_rfl) ?_
           refine l_in2 ?_
           refine o_lit e_Row_ok rfl Try.underlying43 rfl rfl rfl (lit_ok rfl) [(⟨bts out60, ⟨decide (((byteR ys60).1.toNat : Int) = 1), ⟨a70, out70, c70⟩, ((numR 0 0 ys70).1 : Int), ((numR 0 0 ys75).1 : Int)⟩⟩ : ItA)] rfl rfl fun a165 => ?_
           refine l_nil (q_out3 (h_next ?_))
           refine h_one 16 rfl (by kernel_rfl) ?_
           refine l_in3 (l_f2 ?_)
           refine o_append e_Row_ok rfl rfl rfl Try.underlying43 (rds_own e_Row_ok 1 rfl) (by show (_ + _) * 64 ≤ _; (try simp only [List.length_append, List.length_cons, List.length_nil]); omega) (by (try simp only [List.length_append, List.length_cons, List.length_nil]); omega) fun a166 c166 => ?_
           refine l_f1 ?_
           refine l_drop ?_
           refine l_nil (q_out2 (h_next ?_))
           refine h_take 17 rfl rfl (by kernel_rfl) (by kernel_rfl) (by kernel_rfl) (fun L0 => v_nil rfl rfl) ?_
           refine h_take 18 rfl rfl (by kernel_rfl) (by kernel_rfl) (by kernel_rfl) (fun L0 => v_fieldAddr (q := ⟨m53, 1, none⟩) rfl rfl Try.underlying54 rfl ti43 rfl) ?_
           refine h_one 19 rfl (by kernel_rfl) ?_
           refine l_in2 (l_f1 ?_)
           refine o_store1 rfl rfl rfl ti43 rfl rfl ?_
           refine l_nil (q_out2 (h_next ?_))
           refine h_done (by kernel_rfl) ?_
           refine q_in2 (q_block (q_then (c_region (o_move rfl rfl ?_))))
           refine o_bin rfl rfl rfl (b_sub (show IntKind.u64.wrap ((m : Int) - 1) = ((m - 1 : Nat) : Int) from by rw [wrap_u64 (by omega) (by omega)]; omega)) ?_
           refine o_assign rfl rfl (l_nil ?_)
           have hxP : proj (⟨bts out60, ⟨decide (((byteR ys60).1.toNat : Int) = 1), ⟨a70, out70, c70⟩, ((numR 0 0 ys70).1 : Int), ((numR 0 0 ys75).1 : Int)⟩⟩ : ItA) = rowP yse := by unfold rowP rdKey rdVal rdCnt rdHas; rw [e3, ← f60, ← f65, ← f75, ← u8dec, ← hout60, ← hout70]; rfl
           refine qP p4 (qP p3 (qP p3 (qP p3 (qP p5 (qP p5 ?_)))))
           refine q_conv (L' := vals (xs ++ [(⟨bts out60, ⟨decide (((byteR ys60).1.toNat : Int) = 1), ⟨a70, out70, c70⟩, ((numR 0 0 ys70).1 : Int), ((numR 0 0 ys75).1 : Int)⟩⟩ : ItA)]) :: _) (fun w S => Sat.vals_app (x := (⟨bts out60, ⟨decide (((byteR ys60).1.toNat : Int) = 1), ⟨a70, out70, c70⟩, ((numR 0 0 ys70).1 : Int), ((numR 0 0 ys75).1 : Int)⟩⟩ : ItA)) S) ?_
           refine qP p4 (qT (qP p3 (qP p1 (qP p3 (qP p3 ?_)))))
           exact q_round (m - 1, i80, ys80, xs ++ [(⟨bts out60, ⟨decide (((byteR ys60).1.toNat : Int) = 1), ⟨a70, out70, c70⟩, ((numR 0 0 ys70).1 : Int), ((numR 0 0 ys75).1 : Int)⟩⟩ : ItA)], a166, c166) (by exact ⟨by dsimp only; omega, he80, hdr.on (by omega) hyl hgr hxP hkP f80⟩) (by (try dsimp only); omega) ⟨vr, vr, vr, vr, trivial⟩ (fun w S => S)
          · -- 15 comes first
           refine l_in2 ?_
           refine o_lit e_Row_ok rfl Try.underlying43 rfl rfl rfl (lit_ok rfl) [(⟨bts out60, ⟨decide (((byteR ys60).1.toNat : Int) = 1), ⟨a70, out70, c70⟩, ((numR 0 0 ys70).1 : Int), ((numR 0 0 ys75).1 : Int)⟩⟩ : ItA)] rfl rfl fun a165 => ?_
           refine l_nil (q_out3 (h_next ?_))
           refine h_one 4 rfl (by kernel_rfl) ?_
           refine l_in3 ?_
           refine o_load1 rfl rfl Try.underlying43 rfl (rd_mem 1 rfl rfl) ?_
           refine l_nil (q_out3 (h_next ?_))
           refine h_one 16 rfl (by kernel_rfl) ?_
           refine l_in3 (l_f2 ?_)
           refine o_append e_Row_ok rfl rfl rfl Try.underlying43 (rds_own e_Row_ok 1 rfl) (by show (_ + _) * 64 ≤ _; (try simp only [List.length_append, List.length_cons, List.length_nil]); omega) (by (try simp only [List.length_append, List.length_cons, List.length_nil]); omega) fun a166 c166 => ?_
           refine l_f1 ?_
           refine l_drop ?_
           refine l_nil (q_out2 (h_next ?_))
           refine h_take 17 rfl rfl (by kernel_rfl) (by kernel_rfl) (by kernel_rfl) (fun L0 => v_nil rfl rfl) ?_
           refine h_take 18 rfl rfl (by kernel_rfl) (by kernel_rfl) (by kernel_rfl) (fun L0 => v_fieldAddr (q := ⟨m53, 1, none⟩) rfl rfl Try.underlying54 rfl ti43 rfl) ?_
           refine h_one 19 rfl (by kernel_rfl) ?_
           refine l_in2 (l_f1 ?_)
           refine o_store1 rfl rfl rfl ti43 rfl rfl ?_
           refine l_nil (q_out2 (h_next ?_))
           refine h_done (by kernel_rfl) ?_
           refine q_in2 (q_block (q_then (c_region (o_move rfl rfl ?_))))
           refine o_bin rfl rfl rfl (b_sub (show IntKind.u64.wrap ((m : Int) - 1) = ((m - 1 : Nat) : Int) from by rw [wrap_u64 (by omega) (by omega)]; omega)) ?_
           refine o_assign rfl rfl (l_nil ?_)
           have hxP : proj (⟨bts out60, ⟨decide (((byteR ys60).1.toNat : Int) = 1), ⟨a70, out70, c70⟩, ((numR 0 0 ys70).1 : Int), ((numR 0 0 ys75).1 : Int)⟩⟩ : ItA) = rowP yse := by unfold rowP rdKey rdVal rdCnt rdHas; rw [e3, ← f60, ← f65, ← f75, ← u8dec, ← hout60, ← hout70]; rfl
           refine qP p4 (qP p3 (qP p3 (qP p3 (qP p5 (qP p5 ?_)))))
           refine q_conv (L' := vals (xs ++ [(⟨bts out60, ⟨decide (((byteR ys60).1.toNat : Int) = 1), ⟨a70, out70, c70⟩, ((numR 0 0 ys70).1 : Int), ((numR 0 0 ys75).1 : Int)⟩⟩ : ItA)]) :: _) (fun w S => Sat.vals_app (x := (⟨bts out60, ⟨decide (((byteR ys60).1.toNat : Int) = 1), ⟨a70, out70, c70⟩, ((numR 0 0 ys70).1 : Int), ((numR 0 0 ys75).1 : Int)⟩⟩ : ItA)) S) ?_
           refine qP p4 (qT (qP p3 (qP p1 (qP p3 (qP p3 ?_)))))
           exact q_round (m - 1, i80, ys80, xs ++ [(⟨bts out60, ⟨decide (((byteR ys60).1.toNat : Int) = 1), ⟨a70, out70, c70⟩, ((numR 0 0 ys70).1 : Int), ((numR 0 0 ys75).1 : Int)⟩⟩ : ItA)], a166, c166) (by exact ⟨by dsimp only; omega, he80, hdr.on (by omega) hyl hgr hxP hkP f80⟩) (by (try dsimp only); omega) ⟨vr, vr, vr, vr, trivial⟩ (fun w S => S)
   · -- h3F
    have h3b := h3
    try simp only [decide_eq_false_iff_not, Int.not_lt, Int.not_le] at h3
    refine c_exit (q_pass_exit (q_pass_exit (q_hit (q_then (c_seq (c_seq (c_region (o_move rfl rfl (l_f3 ?_)))))))))
    refine o_call rfl cal53 rfl (r6end hs hee hl hcc) ?_
    rintro _ _ ⟨rfl, rfl⟩
    refine o_bin rfl rfl rfl b_neq ?_
    refine l_eq (t := 171) (v' := .bool true) rfl (show _ = Value.bool true from by rw [decide_eq_false (hdr.fin (by omega) hN)]; rfl) ?_
    refine l_nil (q_then (c_true rfl (c_seq (c_region (o_assign rfl rfl (o_assign rfl rfl (l_nil (q_then (c_ret ?_)))))))))
    refine q_pass_ret (qT (qT (qT (qT ?_))))
    exact f_ret (r_two rfl rfl rfl) (⟨rfl, rfl⟩) (fun w S => S)
end
section
set_option linter.unusedVariables false
set_option linter.unusedSimpArgs false
set_option maxRecDepth 10000
open Go.RowKit Classical
set_option maxHeartbeats 4000000 in
theorem rrest_is {W : World} {F : List Res} {n : Int} {bs : List UInt8} {a : Option Addr} {c : Nat} (hs : SlR W e8 a bs) (hl : bs.length ≤ 3000) (hcc : bs.length ≤ c) (h1n : 1 ≤ n) (hn3 : n ≤ 3) {M : Rows} (hM : ValidM n M) (hb : bs = snapB n M) : CS Try.prog 28 #[.slice a (bs).length c, .int .i64 n] W (F) (fun r L' => ∃ (m : Nat) (s : SS), s.n = n ∧ s.M = M ∧ r = .tuple #[.pointer (some ⟨m, 0, none⟩), .int .i64 0] ∧ L' = RfR m s :: F) := by
 refine f_door (l0 := [(0, .slice a (bs).length c), (1, .int .i64 n)]) Try.func28 Try.ntmps28 rfl rfl rfl ?_
 refine c_seq (c_region (o_assign rfl rfl (o_assign rfl rfl (l_nil (q_then (c_seq (c_seq (c_region (o_move rfl rfl ?_)))))))))
 refine o_bin rfl rfl rfl b_lss ?_
 refine l_eq (t := 24) (v' := .bool false) rfl (show _ = Value.bool false from by rw [decide_eq_false (by omega)]) ?_
 refine o_move rfl rfl (o_yes rfl rfl rfl (o_move rfl rfl (o_yes rfl rfl rfl ?_)))
 refine o_bin rfl rfl rfl b_gtr ?_
 refine l_eq (t := 27) (v' := .bool false) rfl (show _ = Value.bool false from by rw [decide_eq_false (by omega)]) ?_
 refine o_pick_false rfl rfl rfl (l_nil (q_then (c_false rfl (c_skip (q_then (c_seq (c_region (o_move rfl rfl ?_))))))))
 refine o_build rfl sp92 ti92 rfl ((fill_cons (cells' := [.slice a (bs).length c, .int .i64 0]) rfl rfl rfl rfl fill_nil)) ?_
 refine o_box rfl rfl fun ke => ?_
 refine o_assign rfl rfl (l_nil (q_then (c_seq ?_)))
 obtain ⟨i0, ys0, hi0, he0, hys0⟩ : ∃ (i0 : Nat) (ys0 : List UInt8), i0 = 0 ∧ E6 bs i0 ys0 ∧ ys0 = bs := ⟨0, bs, rfl, ⟨rfl, Nat.zero_le _⟩, rfl⟩
 refine c_conv (L' := blk ke (.cells #[.slice a (bs).length c, .int .i64 (i0 : Int)] 92 (0, 0)) :: _) (fun w S => by subst hi0; exact S) ?_
 refine c_region (o_move rfl rfl ?_)
 refine o_call rfl cal50 rfl (r6num hs he0 hl hcc) ?_
 rintro _ _ ⟨ys34, i34, he34, dr34, rfl, rfl⟩
 have hu34 := numR_used0 (t := ys0)
 have hz34 := num_0 ys0
 refine o_move rfl rfl (o_extract rfl rfl rfl (o_extract rfl rfl rfl (o_assign rfl rfl (o_assign rfl rfl (l_nil (q_then (c_seq (c_region (o_move rfl rfl ?_)))))))))
 refine o_call rfl cal50 rfl (r6num hs he34 hl hcc) ?_
 rintro _ _ ⟨ys39, i39, he39, dr39, rfl, rfl⟩
 have hu39 := numR_used0 (t := ys34)
 have hz39 := num_0 ys34
 refine o_move rfl rfl (o_extract rfl rfl rfl (o_extract rfl rfl rfl (o_assign rfl rfl (o_assign rfl rfl (l_nil (q_then (c_seq (c_seq ?_))))))))
 have hsh := snap_hd h1n hn3 (by omega) hb
 rw [← hys0, ← dr34] at hsh
 obtain ⟨w1, w2, w3, w4, w5⟩ := hsh
 refine c_region (o_move rfl rfl (o_move rfl rfl ?_))
 refine o_bin rfl rfl rfl (b_add (wrap_i64 (by omega) (by omega))) ?_
 refine o_bin rfl rfl rfl b_neq ?_
 refine l_eq (t := 45) (v' := .bool false) rfl (show _ = Value.bool false from by simp [w1, w3]) ?_
 refine o_move rfl rfl (o_yes rfl rfl rfl (o_move rfl rfl (o_yes rfl rfl rfl (o_move rfl rfl (o_yes rfl rfl rfl ?_)))))
 refine o_int rfl rfl Try.underlying3 Try.underlying34 (wrap_u64 (by omega) (by omega)) ?_
 refine o_yes rfl rfl rfl ?_
 refine o_bin rfl rfl rfl b_neq ?_
 refine l_eq (t := 50) (v' := .bool false) rfl (show _ = Value.bool false from by rw [w2]; simp) ?_
 refine o_pick_false rfl rfl rfl (l_nil (q_then (c_false rfl (c_skip (q_then (c_seq (c_region (o_move rfl rfl ?_))))))))
 refine o_call rfl cal15 rfl (rnew_ (n := n) (by omega) (by omega)) ?_
 rintro _ _ ⟨m53, rfl, rfl⟩
 refine o_assign rfl rfl (l_nil (q_then (c_seq (c_block ?_))))
 refine c_obj ?_
 rintro ⟨a_1, c_1⟩ ok_1
 refine c_conv (L' := blk m53 (.cells #[.int .i64 ((⟨n, []⟩ : SS).n), .slice a_1 ((⟨n, []⟩ : SS).xs).length c_1] 54 (0, 0)) :: row e_Row.T e_Row.sz a_1 ((⟨n, []⟩ : SS).xs).length c_1 (flat e_Row ((⟨n, []⟩ : SS).xs)) :: vals ((⟨n, []⟩ : SS).xs) :: _) (fun w S => S) ?_
 refine c_loop (α := Nat × Nat × (List UInt8) × (List ItA) × (Option Addr) × Nat) (fun z => [(1, .int .i64 n), (6, .pointer (some ⟨ke, 0, none⟩)), (9, .int .u64 (z.1 : Int)), (11, .pointer (some ⟨m53, 0, none⟩))]) (fun z => blk m53 (.cells #[.int .i64 n, .slice z.2.2.2.2.1 (z.2.2.2.1).length z.2.2.2.2.2] 54 (0, 0)) :: row e_Row.T e_Row.sz z.2.2.2.2.1 (z.2.2.2.1).length z.2.2.2.2.2 (flat e_Row z.2.2.2.1) :: vals z.2.2.2.1 :: blk ke (.cells #[.slice a (bs).length c, .int .i64 (z.2.1 : Int)] 92 (0, 0)) :: F) (fun z => z.1 < 18446744073709551616 ∧ E6 bs z.2.1 z.2.2.1 ∧ DRT n bs M z.1 z.2.2.1 z.2.2.2.1) (fun z => z.1) ((numR 0 0 ys34).1, i39, ys39, [], a_1, c_1) (by exact ⟨num_0 _, he39, DRT.start h1n hn3 hl hb (by rw [← hys0]; exact dr34) dr39⟩) ⟨vr, vr, vr, vr, trivial⟩ (fun w S => S) ?_
 rintro ⟨m, ie, yse, xs, ax, cx⟩ ⟨hm64, hee, hdr⟩
 try dsimp only at *
 refine c_seq (c_seq (c_region (o_move rfl rfl ?_)))
 refine o_bin rfl rfl rfl b_gtr ?_
 refine l_nil (q_then ?_)
 refine c_cond rfl (fun h1 => ?_) (fun h1 => ?_)
 · -- h1T
  have h1b := h1
  try simp only [decide_eq_true_eq] at h1
  refine c_skip (q_then (c_seq (c_block (c_seq (c_region (o_move rfl rfl (l_f3 ?_)))))))
  refine o_call rfl cal51 rfl (r6text hs hee hl hcc) ?_
  rintro _ _ ⟨out60, a60, c60, ys60, i60, hout60, he60, dr60, rfl, rfl⟩
  have hu60 := textR_used (t := yse)
  refine o_move rfl rfl (o_extract rfl rfl rfl (o_extract rfl rfl rfl (o_assign rfl rfl (o_assign rfl rfl (l_nil (q_then (c_seq (c_region (o_move rfl rfl ?_)))))))))
  refine l_f1 ?_
  refine o_call rfl cal52 rfl (r6byte hs he60 hl hcc) ?_
  rintro _ _ ⟨ys65, i65, he65, dr65, rfl, rfl⟩
  have hu65 := byteR_used (t := ys60)
  have hz65 := (byteR ys60).1.toNat_lt
  refine o_move rfl rfl (o_extract rfl rfl rfl (o_extract rfl rfl rfl (o_assign rfl rfl (o_assign rfl rfl (l_nil (q_then (c_seq (c_region (o_move rfl rfl ?_)))))))))
  refine o_call rfl cal51 rfl (r6text hs he65 hl hcc) ?_
  rintro _ _ ⟨out70, a70, c70, ys70, i70, hout70, he70, dr70, rfl, rfl⟩
  have hu70 := textR_used (t := ys65)
  refine o_move rfl rfl (o_extract rfl rfl rfl (o_extract rfl rfl rfl (o_assign rfl rfl (o_assign rfl rfl (l_nil (q_then (c_seq (c_region (o_move rfl rfl ?_)))))))))
  refine l_f1 ?_
  refine o_call rfl cal50 rfl (r6num hs he70 hl hcc) ?_
  rintro _ _ ⟨ys75, i75, he75, dr75, rfl, rfl⟩
  have hu75 := numR_used0 (t := ys70)
  have hz75 := num_0 ys70
  refine o_move rfl rfl (o_extract rfl rfl rfl (o_extract rfl rfl rfl (o_assign rfl rfl (o_assign rfl rfl (l_nil (q_then (c_seq (c_region (o_move rfl rfl ?_)))))))))
  refine o_call rfl cal50 rfl (r6num hs he75 hl hcc) ?_
  rintro _ _ ⟨ys80, i80, he80, dr80, rfl, rfl⟩
  have hu80 := numR_used0 (t := ys75)
  have hz80 := num_0 ys75
  refine o_move rfl rfl (o_extract rfl rfl rfl (o_extract rfl rfl rfl (o_assign rfl rfl (o_assign rfl rfl (l_nil (q_then (c_seq (c_seq ?_))))))))
  have hyl : yse.length ≤ 3000 := by have h9 := hee.le; omega
  have f60 : ys60 = y1 yse := dr60
  have f65 : ys65 = y2 yse := by rw [dr65, f60]; rfl
  have f70 : ys70 = y3 yse := by rw [dr70, f65]; rfl
  have f75 : ys75 = y4 yse := by rw [dr75, f70]; rfl
  have f80 : ys80 = y5 yse := by rw [dr80, f75]; rfl
  obtain ⟨q1, q2, q3, q4, q5, q6, q7⟩ := hdr.row (by omega) hM hn3 hyl
  have g1 : (textR yse).2.1 = 0 := q1.e1
  have g2 : (byteR ys60).2.1 = 0 := by rw [f60]; exact q1.e2
  have g3 : (textR ys65).2.1 = 0 := by rw [f65]; exact q1.e3
  have g4 : (numR 0 0 ys70).2.1 = 0 := by rw [f70]; exact q1.e4
  have g5 : (numR 0 0 ys75).2.1 = 0 := by rw [f75]; exact q1.e5
  have g6 : (byteR ys60).1.toNat ≤ 1 := by rw [f60]; exact q2
  have g7 : ((numR 0 0 ys70).1 : Int) < n := by rw [f70]; exact q3
  have g8 : (byteR ys60).1.toNat = 0 → out70.length = 0 ∧ ¬ (numR 0 0 ys75).1 = 0 := by rw [f60, f75, hout70, f65]; exact q4
  have g9 : (numR 0 0 ys75).1 = 0 → ((numR 0 0 ys70).1 : Int) = dflt (bts out60) n := by rw [f75, f70, hout60]; exact q5
  have hkP : ∀ p ∈ xs, strlt p.f_key (bts out60) := by rw [hout60]; exact q6
  refine c_region (o_move rfl rfl (o_move rfl rfl ?_))
  refine o_bin rfl rfl rfl (b_add (wrap_i64 (by omega) (by omega))) ?_
  refine o_move rfl rfl ?_
  refine o_bin rfl rfl rfl (b_add (wrap_i64 (by omega) (by omega))) ?_
  refine o_move rfl rfl ?_
  refine o_bin rfl rfl rfl (b_add (wrap_i64 (by omega) (by omega))) ?_
  refine o_move rfl rfl ?_
  refine o_bin rfl rfl rfl (b_add (wrap_i64 (by omega) (by omega))) ?_
  refine o_bin rfl rfl rfl b_neq ?_
  refine l_eq (t := 92) (v' := .bool false) rfl (show _ = Value.bool false from by simp [g1, g2, g3, g4, g5]) ?_
  refine o_move rfl rfl (o_yes rfl rfl rfl (o_move rfl rfl (o_yes rfl rfl rfl ?_)))
  refine o_bin rfl rfl rfl b_gtr ?_
  refine l_eq (t := 95) (v' := .bool false) rfl (show _ = Value.bool false from by rw [decide_eq_false (by omega)]) ?_
  refine o_pick_false rfl rfl rfl (o_move rfl rfl (o_yes rfl rfl rfl (o_move rfl rfl (o_yes rfl rfl rfl (o_move rfl rfl (o_yes rfl rfl rfl ?_))))))
  refine o_int rfl rfl Try.underlying3 Try.underlying34 (wrap_u64 (by omega) (by omega)) ?_
  refine o_yes rfl rfl rfl ?_
  refine o_bin rfl rfl rfl b_geq ?_
  refine l_eq (t := 101) (v' := .bool false) rfl (show _ = Value.bool false from by rw [decide_eq_false (by omega)]) ?_
  refine o_pick_false rfl rfl rfl (o_move rfl rfl (o_yes rfl rfl rfl (o_move rfl rfl (o_yes rfl rfl rfl ?_))))
  refine o_bin rfl rfl rfl b_eql ?_
  refine o_yes rfl rfl rfl (o_move rfl rfl ?_)
  refine l_split (t := 106) rfl (fun h2 => ?_) (fun h2 => ?_)
  · -- h2T
   have h2b := h2
   try simp only [decide_eq_true_eq] at h2
   refine o_yes rfl rfl rfl (o_move rfl rfl (o_yes rfl rfl rfl ?_))
   refine o_len rfl rfl Try.underlying23 ?_
   refine o_yes rfl rfl rfl ?_
   refine o_bin rfl rfl rfl b_gtr ?_
   refine l_eq (t := 109) (v' := .bool false) rfl (show _ = Value.bool false from by rw [decide_eq_false (by have h9 := g8 (by omega); omega)]) ?_
   refine o_yes rfl rfl rfl (o_move rfl rfl (o_yes rfl rfl rfl (o_move rfl rfl (o_yes rfl rfl rfl ?_))))
   refine o_bin rfl rfl rfl b_eql ?_
   refine l_eq (t := 112) (v' := .bool false) rfl (show _ = Value.bool false from by rw [decide_eq_false (by have h9 := g8 (by omega); omega)]) ?_
   refine o_yes rfl rfl rfl (o_pick_false rfl rfl rfl (o_yes rfl rfl rfl (o_pick_true rfl rfl rfl (o_pick_false rfl rfl rfl (o_move rfl rfl (o_yes rfl rfl rfl (o_move rfl rfl (o_yes rfl rfl rfl ?_))))))))
   refine o_bin rfl rfl rfl b_eql ?_
   refine o_yes rfl rfl rfl (o_move rfl rfl ?_)
   refine l_split (t := 119) rfl (fun h3 => ?_) (fun h3 => ?_)
   · -- h3T
    have h3b := h3
    try simp only [decide_eq_true_eq] at h3
    refine o_yes rfl rfl rfl (o_move rfl rfl (o_yes rfl rfl rfl ?_))
    refine o_int rfl rfl Try.underlying34 Try.underlying3 (wrap_i64 (by omega) (by omega)) ?_
    refine o_yes rfl rfl rfl (o_move rfl rfl (o_yes rfl rfl rfl ?_))
    refine o_bytesStr (e := e8) rfl rfl rfl Try.underlying23 Try.underlying5 Try.underlying9 (rds_own e8_ok 2 rfl) ?_
    refine o_yes rfl rfl rfl (o_move rfl rfl (o_yes rfl rfl rfl ?_))
    refine o_call rfl cal23 rfl (rdefault_ (k := (bts out60)) (n := n) (by rw [hout60]; have h9 := key_le (t := yse); exact Nat.le_trans h9 (by omega)) (by omega)) ?_
    rintro _ _ ⟨rfl, rfl⟩
    refine o_yes rfl rfl rfl ?_
    refine o_bin rfl rfl rfl b_neq ?_
    refine l_eq (t := 126) (v' := .bool false) rfl (show _ = Value.bool false from by rw [g9 (by omega)]; simp) ?_
    refine o_yes rfl rfl rfl (o_pick_true rfl rfl rfl (o_pick_false rfl rfl rfl (l_nil (q_then (c_false rfl (c_skip (q_then (c_seq ?_))))))))
    have hxl := hdr.len
    have hh3 : (numR 0 0 ys70).1 < 3 := by omega
    have e3 : rdHome yse % 3 = (numR 0 0 ys70).1 := by rw [f70]; exact Nat.mod_eq_of_lt (by show (numR 0 0 (y3 yse)).1 < 3; rw [← f70]; exact hh3)
    refine c_region (o_move rfl rfl (o_nil rfl rfl ?_))
    refine o_fieldAddr (q := ⟨m53, 1, none⟩) rfl rfl Try.underlying54 rfl ti43 rfl ?_
    refine o_load1 rfl rfl Try.underlying43 rfl (rd_mem 3 rfl rfl) ?_
    refine o_len rfl rfl Try.underlying43 ?_
    refine o_bin rfl rfl rfl (b_sub (wrap_i64 (by omega) (by omega))) ?_
    refine o_assign rfl rfl (l_nil (q_then (c_seq (c_seq ?_))))
    refine (Classical.em (0 < xs.length)).elim (fun hne => ?_) (fun hne => ?_)
    · -- hne True
     refine c_fact (p := ∃ ad, ax = some ad) (rds_some (e := e_Row) (xs := xs) (rds_own e_Row_ok 4 rfl) (by intro h0; rw [h0] at hne; simp at hne)) ?_
     rintro ⟨adx, eadx⟩
     refine c_quiet (by kernel_rfl) (by kernel_rfl) ?_
     refine Qt.o_val rfl (v_move rfl rfl) ?_
     refine Qt.o_val rfl (v_bin rfl rfl rfl b_geq) ?_
     refine Qt.l_eq (t := 136) (v' := .bool true) rfl (show _ = Value.bool true from by rw [decide_eq_true (by omega)]) ?_
     refine Qt.o_val rfl (v_move rfl rfl) (Qt.o_yes rfl rfl rfl (Qt.o_val rfl (v_move rfl rfl) (Qt.o_yes rfl rfl rfl (Qt.o_val rfl (v_nil rfl rfl) (Qt.o_yes rfl rfl rfl ?_)))))
     refine Qt.o_val rfl (v_fieldAddr (q := ⟨m53, 1, none⟩) rfl rfl Try.underlying54 rfl ti43 rfl) ?_
     refine Qt.o_yes rfl rfl rfl ?_
     refine Qt.o_val rfl (v_load1 rfl rfl Try.underlying43 rfl (rd_mem 3 rfl rfl)) ?_
     refine Qt.o_yes rfl rfl rfl (Qt.o_val rfl (v_move rfl rfl) (Qt.o_yes rfl rfl rfl ?_))
     refine Qt.o_val rfl (v_indexK e_Row_ok eadx rfl rfl rfl Try.underlying43 (by omega) (by omega)) ?_
     obtain ⟨x143, hx143⟩ : ∃ x, (xs)[(((xs).length : Int) - 1).toNat]? = some x := ⟨_, List.getElem?_eq_getElem (by omega)⟩
     refine Qt.o_yes rfl rfl rfl ?_
     refine Qt.o_val rfl (v_fieldAddr rfl rfl Try.underlying49 rfl ti9 (Addr.add_add' _ _ _)) ?_
     refine Qt.o_yes rfl rfl rfl ?_
     refine Qt.o_val rfl (v_load1 rfl rfl Try.underlying9 rfl (rd_sl e_Row_ok eadx (rds_own e_Row_ok 4 rfl) hx143 rfl)) ?_
     refine Qt.o_yes rfl rfl rfl (Qt.o_val rfl (v_move rfl rfl) (Qt.o_yes rfl rfl rfl ?_))
     refine Qt.o_val rfl (v_bytesStr (e := e8) rfl rfl rfl Try.underlying23 Try.underlying5 Try.underlying9 (rds_own e8_ok 2 rfl)) ?_
     refine Qt.o_yes rfl rfl rfl ?_
     refine Qt.o_val rfl (v_bin rfl rfl rfl b_sgeq) ?_
     refine Qt.l_eq (t := 148) (v' := .bool false) rfl (show _ = Value.bool false from by rw [show slt x143.f_key (bts out60) = true from hkP x143 (List.mem_of_getElem? hx143)]; rfl) ?_
     refine Qt.o_val rfl (v_pick_true rfl rfl rfl) ?_
     refine Qt.l_nil ?_
     refine q_then (c_false rfl (c_skip (q_then (cP p4 (cP p4 (cP p5 (cP p5 (cP p5 (cP p5 ?_)))))))))
     refine cP p3 (cP p3 (cP p3 (cP p3 (cP p5 (cP p5 ?_)))))
     refine c_heldF [blk m53 (.cells #[.int .i64 n, .slice ax (xs).length cx] 54 (0, 0)), row e_Row.T e_Row.sz ax (xs).length cx (flat e_Row xs)] (blk ke (.cells #[.slice a (bs).length c, .int .i64 (i80 : Int)] 92 (0, 0)) :: row e8.T e8.sz a70 (out70).length c70 (flat e8 out70) :: row e8.T e8.sz a60 (out60).length c60 (flat e8 out60) :: vals xs :: F) (by kernel_rfl) ?_
     refine h_take 0 rfl rfl (by kernel_rfl) (by kernel_rfl) (by kernel_rfl) (fun L0 => v_move rfl rfl) ?_
     refine h_take 1 rfl rfl (by kernel_rfl) (by kernel_rfl) (by kernel_rfl) (fun L0 => v_move rfl rfl) ?_
     refine h_take 2 rfl rfl (by kernel_rfl) (by kernel_rfl) (by kernel_rfl) (fun L0 => v_nil rfl rfl) ?_
     refine h_take 3 rfl rfl (by kernel_rfl) (by kernel_rfl) (by kernel_rfl) (fun L0 => v_fieldAddr (q := ⟨m53, 1, none⟩) rfl rfl Try.underlying54 rfl ti43 rfl) ?_
     refine h_take 5 rfl rfl (by kernel_rfl) (by kernel_rfl) (by kernel_rfl) (fun L0 => v_move rfl rfl) ?_
     refine h_take 6 rfl rfl (by kernel_rfl) (by kernel_rfl) (by kernel_rfl) (fun L0 => v_bytesStr (e := e8) rfl rfl rfl Try.underlying23 Try.underlying5 Try.underlying9 (rds_own e8_ok 2 rfl)) ?_
     refine h_take 7 rfl rfl (by kernel_rfl) (by kernel_rfl) (by kernel_rfl) (fun L0 => v_move rfl rfl) ?_
     refine h_take 8 rfl rfl (by kernel_rfl) (by kernel_rfl) (by kernel_rfl) (fun L0 => v_bin rfl rfl rfl b_eql) ?_
     refine h_take 9 rfl rfl (by kernel_rfl) (by kernel_rfl) (by kernel_rfl) (fun L0 => v_move rfl rfl) ?_
     refine h_take 10 rfl rfl (by kernel_rfl) (by kernel_rfl) (by kernel_rfl) (fun L0 => v_move rfl rfl) ?_
     refine h_take 11 rfl rfl (by kernel_rfl) (by kernel_rfl) (by kernel_rfl) (fun L0 => v_int rfl rfl Try.underlying34 Try.underlying3 (wrap_i64 (by omega) (by omega))) ?_
     refine h_take 12 rfl rfl (by kernel_rfl) (by kernel_rfl) (by kernel_rfl) (fun L0 => v_move rfl rfl) ?_
     refine h_take 13 rfl rfl (by kernel_rfl) (by kernel_rfl) (by kernel_rfl) (fun L0 => v_build rfl sp36 ti36 rfl ((fill_cons (cells' := [.bool (decide (((byteR ys60).1.toNat : Int) = 1)), .slice none 0 0, .int .i64 0, .int .u64 0]) rfl rfl rfl rfl (fill_cons (cells' := [.bool (decide (((byteR ys60).1.toNat : Int) = 1)), .slice a70 (out70).length c70, .int .i64 0, .int .u64 0]) rfl rfl rfl rfl (fill_cons (cells' := [.bool (decide (((byteR ys60).1.toNat : Int) = 1)), .slice a70 (out70).length c70, .int .i64 ((numR 0 0 ys70).1 : Int), .int .u64 0]) rfl rfl rfl rfl (fill_cons (cells' := [.bool (decide (((byteR ys60).1.toNat : Int) = 1)), .slice a70 (out70).length c70, .int .i64 ((numR 0 0 ys70).1 : Int), .int .u64 ((numR 0 0 ys75).1 : Int)]) rfl rfl rfl rfl fill_nil)))))) ?_
     refine h_take 14 rfl rfl (by kernel_rfl) (by kernel_rfl) (by kernel_rfl) (fun L0 => v_build rfl sp49 ti49 rfl ((fill_cons (cells' := [.string (bts out60), .bool false, .slice none 0 0, .int .i64 0, .int .u64 0]) rfl rfl rfl rfl (fill_cons (cells' := [.string (bts out60), .bool (decide (((byteR ys60).1.toNat : Int) = 1)), .slice a70 (out70).length c70, .int .i64 ((numR 0 0 ys70).1 : Int), .int .u64 ((numR 0 0 ys75).1 : Int)]) rfl rfl rfl rfl fill_nil)))) ?_
     refine h_many (is := [4, 15]) (by kernel_rfl) (by decide) (forall_cons ⟨_, rfl, ?_⟩ (forall_cons ⟨_, rfl, ?_⟩ forall_nil))
     · -- 4 comes first
      refine l_in2 ?_
      refine o_load1 rfl rfl Try.underlying43 rfl (rd_mem 0 rfl rfl) ?_
      refine l_nil (q_out2 (h_next ?_))
      refine h_one 15 rfl (by kernel_rfl) ?_
      refine l_in2 ?_
      refine o_lit e_Row_ok rfl Try.underlying43 rfl rfl rfl (lit_ok rfl) [(⟨bts out60, ⟨decide (((byteR ys60).1.toNat : Int) = 1), ⟨a70, out70, c70⟩, ((numR 0 0 ys70).1 : Int), ((numR 0 0 ys75).1 : Int)⟩⟩ : ItA)] rfl rfl fun a165 => ?_
      refine l_nil (q_out3 (h_next ?_))
      refine h_one 16 rfl (by kernel_rfl) ?_
      refine l_in3 (l_f2 ?_)
      refine o_append e_Row_ok rfl rfl rfl Try.underlying43 (rds_own e_Row_ok 1 rfl) (by show (_ + _) * 64 ≤ _; (try simp only [List.length_append, List.length_cons, List.length_nil]); omega) (by (try simp only [List.length_append, List.length_cons, List.length_nil]); omega) fun a166 c166 => ?_
      refine l_f1 ?_
      refine l_drop ?_
      refine l_nil (q_out2 (h_next ?_))
      refine h_take 17 rfl rfl (by kernel_rfl) (by kernel_rfl) (by kernel_rfl) (fun L0 => v_nil rfl rfl) ?_
      refine h_take 18 rfl rfl (by kernel_rfl) (by kernel_rfl) (by kernel_rfl) (fun L0 => v_fieldAddr (q := ⟨m53, 1, none⟩) rfl rfl Try.underlying54 rfl ti43 rfl) ?_
      refine h_one 19 rfl (by kernel_rfl) ?_
      refine l_in2 (l_f1 ?_)
      refine o_store1 rfl rfl rfl ti43 rfl rfl ?_
      refine l_nil (q_out2 (h_next ?_))
      refine h_done (by kernel_rfl) ?_
      refine q_in2 (q_block (q_then (c_region (o_move rfl rfl ?_))))
      refine o_bin rfl rfl rfl (b_sub (show IntKind.u64.wrap ((m : Int) - 1) = ((m - 1 : Nat) : Int) from by rw [wrap_u64 (by omega) (by omega)]; omega)) ?_
      refine o_assign rfl rfl (l_nil ?_)
      have hxP : proj (⟨bts out60, ⟨decide (((byteR ys60).1.toNat : Int) = 1), ⟨a70, out70, c70⟩, ((numR 0 0 ys70).1 : Int), ((numR 0 0 ys75).1 : Int)⟩⟩ : ItA) = rowP yse := by unfold rowP rdKey rdVal rdCnt rdHas; rw [e3, ← f60, ← f65, ← f75, ← u8dec, ← hout60, ← hout70]; rfl
      refine qP p4 (qP p3 (qP p3 (qP p3 (qP p5 (qP p5 ?_)))))
      refine q_conv (L' := vals (xs ++ [(⟨bts out60, ⟨decide (((byteR ys60).1.toNat : Int) = 1), ⟨a70, out70, c70⟩, ((numR 0 0 ys70).1 : Int), ((numR 0 0 ys75).1 : Int)⟩⟩ : ItA)]) :: _) (fun w S => Sat.vals_app (x := (⟨bts out60, ⟨decide (((byteR ys60).1.toNat : Int) = 1), ⟨a70, out70, c70⟩, ((numR 0 0 ys70).1 : Int), ((numR 0 0 ys75).1 : Int)⟩⟩ : ItA)) S) ?_
      refine qP p4 (qT (qP p3 (qP p1 (qP p3 (qP p3 ?_)))))
      exact q_round (m - 1, i80, ys80, xs ++ [(⟨bts out60, ⟨decide (((byteR ys60).1.toNat : Int) = 1), ⟨a70, out70, c70⟩, ((numR 0 0 ys70).1 : Int), ((numR 0 0 ys75).1 : Int)⟩⟩ : ItA)], a166, c166) (by exact ⟨by dsimp only; omega, he80, q7 _ _ hxP f80⟩) (by (try dsimp only); omega) ⟨vr, vr, vr, vr, trivial⟩ (fun w S => S)
     · -- 15 comes first
      refine l_in2 ?_
      refine o_lit e_Row_ok rfl Try.underlying43 rfl rfl rfl (lit_ok rfl) [(⟨bts out60, ⟨decide (((byteR ys60).1.toNat : Int) = 1), ⟨a70, out70, c70⟩, ((numR 0 0 ys70).1 : Int), ((numR 0 0 ys75).1 : Int)⟩⟩ : ItA)] rfl rfl fun a165 => ?_
      refine l_nil (q_out3 (h_next ?_))
      refine h_one 4 rfl (by kernel_rfl) ?_
      refine l_in3 ?_
      refine o_load1 rfl rfl Try.underlying43 rfl (rd_mem 1 rfl rfl) ?_
      refine l_nil (q_out3 (h_next ?_))
      refine h_one 16 rfl (by kernel_rfl) ?_
      refine l_in3 (l_f2 ?_)
      refine o_append e_Row_ok rfl rfl rfl Try.underlying43 (rds_own e_Row_ok 1 rfl) (by show (_ + _) * 64 ≤ _; (try simp only [List.length_append, List.length_cons, List.length_nil]); omega) (by (try simp only [List.length_append, List.length_cons, List.length_nil]); omega) fun a166 c166 => ?_
      refine l_f1 ?_
      refine l_drop ?_
      refine l_nil (q_out2 (h_next ?_))
      refine h_take 17 rfl rfl (by kernel_rfl) (by kernel_rfl) (by kernel_rfl) (fun L0 => v_nil rfl rfl) ?_
      refine h_take 18 rfl rfl (by kernel_rfl) (by kernel_rfl) (by kernel_rfl) (fun L0 => v_fieldAddr (q := ⟨m53, 1, none⟩) rfl rfl Try.underlying54 rfl ti43 rfl) ?_
      refine h_one 19 rfl (by kernel_rfl) ?_
      refine l_in2 (l_f1 ?_)
      refine o_store1 rfl rfl rfl ti43 rfl rfl ?_
      refine l_nil (q_out2 (h_next ?_))
      refine h_done (by kernel_rfl) ?_
      refine q_in2 (q_block (q_then (c_region (o_move rfl rfl ?_))))
      refine o_bin rfl rfl rfl (b_sub (show IntKind.u64.wrap ((m : Int) - 1) = ((m - 1 : Nat) : Int) from by rw [wrap_u64 (by omega) (by omega)]; omega)) ?_
      refine o_assign rfl rfl (l_nil ?_)
      have hxP : proj (⟨bts out60, ⟨decide (((byteR ys60).1.toNat : Int) = 1), ⟨a70, out70, c70⟩, ((numR 0 0 ys70).1 : Int), ((numR 0 0 ys75).1 : Int)⟩⟩ : ItA) = rowP yse := by unfold rowP rdKey rdVal rdCnt rdHas; rw [e3, ← f60, ← f65, ← f75, ← u8dec, ← hout60, ← hout70]; rfl
      refine qP p4 (qP p3 (qP p3 (qP p3 (qP p5 (qP p5 ?_)))))
      refine q_conv (L' := vals (xs ++ [(⟨bts out60, ⟨decide (((byteR ys60).1.toNat : Int) = 1), ⟨a70, out70, c70⟩, ((numR 0 0 ys70).1 : Int), ((numR 0 0 ys75).1 : Int)⟩⟩ : ItA)]) :: _) (fun w S => Sat.vals_app (x := (⟨bts out60, ⟨decide (((byteR ys60).1.toNat : Int) = 1), ⟨a70, out70, c70⟩, ((numR 0 0 ys70).1 : Int), ((numR 0 0 ys75).1 : Int)⟩⟩ : ItA)) S) ?_
      refine qP p4 (qT (qP p3 (qP p1 (qP p3 (qP p3 ?_)))))
      exact q_round (m - 1, i80, ys80, xs ++ [(⟨bts out60, ⟨decide (((byteR ys60).1.toNat : Int) = 1), ⟨a70, out70, c70⟩, ((numR 0 0 ys70).1 : Int), ((numR 0 0 ys75).1 : Int)⟩⟩ : ItA)], a166, c166) (by exact ⟨by dsimp only; omega, he80, q7 _ _ hxP f80⟩) (by (try dsimp only); omega) ⟨vr, vr, vr, vr, trivial⟩ (fun w S => S)
    · -- hne False
     refine c_quiet (by kernel_rfl) (by kernel_rfl) ?_
     refine Qt.o_val rfl (v_move rfl rfl) ?_
     refine Qt.o_val rfl (v_bin rfl rfl rfl b_geq) ?_
     refine Qt.l_eq (t := 136) (v' := .bool false) rfl (show _ = Value.bool false from by rw [decide_eq_false (by omega)]) ?_
     refine Qt.o_val rfl (v_move rfl rfl) ?_
     refine Qt.o_no rfl rfl rfl rfl ?_
     refine Qt.o_no rfl rfl rfl rfl ?_
     refine Qt.o_no rfl rfl rfl rfl ?_
     refine Qt.o_no rfl rfl rfl rfl ?_
     refine Qt.o_no rfl rfl rfl rfl ?_
     refine Qt.o_no rfl rfl rfl rfl ?_
     refine Qt.o_no rfl rfl rfl rfl ?_
     refine Qt.o_no rfl rfl rfl rfl ?_
     refine Qt.o_no rfl rfl rfl rfl ?_
     refine Qt.o_no rfl rfl rfl rfl ?_
     refine Qt.o_no rfl rfl rfl rfl ?_
     refine Qt.o_val rfl (v_pick_false rfl rfl rfl) ?_
     refine Qt.l_nil ?_
     refine q_then (c_false rfl (c_skip (q_then (cP p4 (cP p4 (cP p5 (cP p5 (cP p5 (cP p5 ?_)))))))))
     refine cP p3 (cP p3 (cP p3 (cP p3 (cP p5 (cP p5 ?_)))))
     refine c_heldF [blk m53 (.cells #[.int .i64 n, .slice ax (xs).length cx] 54 (0, 0)), row e_Row.T e_Row.sz ax (xs).length cx (flat e_Row xs)] (blk ke (.cells #[.slice a (bs).length c, .int .i64 (i80 : Int)] 92 (0, 0)) :: row e8.T e8.sz a70 (out70).length c70 (flat e8 out70) :: row e8.T e8.sz a60 (out60).length c60 (flat e8 out60) :: vals xs :: F) (by kernel_rfl) ?_
     refine h_take 0 rfl rfl (by kernel_rfl) (by kernel_rfl) (by kernel_rfl) (fun L0 => v_move rfl rfl) ?_
     refine h_take 1 rfl rfl (by kernel_rfl) (by kernel_rfl) (by kernel_rfl) (fun L0 => v_move rfl rfl) ?_
     refine h_take 2 rfl rfl (by kernel_rfl) (by kernel_rfl) (by kernel_rfl) (fun L0 => v_nil rfl rfl) ?_
     refine h_take 3 rfl rfl (by kernel_rfl) (by kernel_rfl) (by kernel_rfl) (fun L0 => v_fieldAddr (q := ⟨m53, 1, none⟩) rfl rfl Try.underlying54 rfl ti43 rfl) ?_
     refine h_take 5 rfl rfl (by kernel_rfl) (by kernel_rfl) (by kernel_rfl) (fun L0 => v_move rfl rfl) ?_
     refine h_take 6 rfl rfl (by kernel_rfl) (by kernel_rfl) (by kernel_rfl) (fun L0 => v_bytesStr (e := e8) rfl rfl rfl Try.underlying23 Try.underlying5 Try.underlying9 (rds_own e8_ok 2 rfl)) ?_
     refine h_take 7 rfl rfl (by kernel_rfl) (by kernel_rfl) (by kernel_rfl) (fun L0 => v_move rfl rfl) ?_
     refine h_take 8 rfl rfl (by kernel_rfl) (by kernel_rfl) (by kernel_rfl) (fun L0 => v_bin rfl rfl rfl b_eql) ?_
     refine h_take 9 rfl rfl (by kernel_rfl) (by kernel_rfl) (by kernel_rfl) (fun L0 => v_move rfl rfl) ?_
     refine h_take 10 rfl rfl (by kernel_rfl) (by kernel_rfl) (by kernel_rfl) (fun L0 => v_move rfl rfl) ?_
     refine h_take 11 rfl rfl (by kernel_rfl) (by kernel_rfl) (by kernel_rfl) (fun L0 => v_int rfl rfl Try.underlying34 Try.underlying3 (wrap_i64 (by omega) (by omega))) ?_
     refine h_take 12 rfl rfl (by kernel_rfl) (by kernel_rfl) (by kernel_rfl) (fun L0 => v_move rfl rfl) ?_
     refine h_take 13 rfl rfl (by kernel_rfl) (by kernel_rfl) (by kernel_rfl) (fun L0 => v_build rfl sp36 ti36 rfl ((fill_cons (cells' := [.bool (decide (((byteR ys60).1.toNat : Int) = 1)), .slice none 0 0, .int .i64 0, .int .u64 0]) rfl rfl rfl rfl (fill_cons (cells' := [.bool (decide (((byteR ys60).1.toNat : Int) = 1)), .slice a70 (out70).length c70, .int .i64 0, .int .u64 0]) rfl rfl rfl rfl (fill_cons (cells' := [.bool (decide (((byteR ys60).1.toNat : Int) = 1)), .slice a70 (out70).length c70, .int .i64 ((numR 0 0 ys70).1 : Int), .int .u64 0]) rfl rfl rfl rfl (fill_cons (cells' := [.bool (decide (((byteR ys60).1.toNat : Int) = 1)), .slice a70 (out70).length c70, .int .i64 ((numR 0 0 ys70).1 : Int), .int .u64 ((numR 0 0 ys75).1 : Int)]) rfl rfl rfl rfl fill_nil)))))) ?_
     refine h_take 14 rfl rfl (by kernel_rfl) (by kernel_rfl) (by kernel_rfl) (fun L0 => v_build rfl sp49 ti49 rfl ((fill_cons (cells' := [.string (bts out60), .bool false, .slice none 0 0, .int .i64 0, .int .u64 0]) rfl rfl rfl rfl (fill_cons (cells' := [.string (bts out60), .bool (decide (((byteR ys60).1.toNat : Int) = 1)), .slice a70 (out70).length c70, .int .i64 ((numR 0 0 ys70).1 : Int), .int .u64 ((numR 0 0 ys75).1 : Int)]) rfl rfl rfl rfl fill_nil)))) ?_
     refine h_many (is := [4, 15]) (by kernel_rfl) (by decide) (forall_cons ⟨_, rfl, ?_⟩ (forall_cons ⟨_, rfl, ?_⟩ forall_nil))
     · -- 4 comes first
      refine l_in2 ?_
      refine o_load1 rfl rfl Try.underlying43 rfl (rd_mem 0 rfl rfl) ?_
      refine l_nil (q_out2 (h_next ?_))
      refine h_one 15 rfl (by kernel_rfl) ?_
      refine l_in2 ?_
      refine o_lit e_Row_ok rfl Try.underlying43 rfl rfl rfl (lit_ok rfl) [(⟨bts out60, ⟨decide (((byteR ys60).1.toNat : Int) = 1), ⟨a70, out70, c70⟩, ((numR 0 0 ys70).1 : Int), ((numR 0 0 ys75).1 : Int)⟩⟩ : ItA)] rfl rfl fun a165 => ?_
      refine l_nil (q_out3 (h_next ?_))
      refine h_one 16 rfl (by kernel_rfl) ?_
      refine l_in3 (l_f2 ?_)
      refine o_append e_Row_ok rfl rfl rfl Try.underlying43 (rds_own e_Row_ok 1 rfl) (by show (_ + _) * 64 ≤ _; (try simp only [List.length_append, List.length_cons, List.length_nil]); omega) (by (try simp only [List.length_append, List.length_cons, List.length_nil]); omega) fun a166 c166 => ?_
      refine l_f1 ?_
      refine l_drop ?_
      refine l_nil (q_out2 (h_next ?_))
      refine h_take 17 rfl rfl (by kernel_rfl) (by kernel_rfl) (by kernel_rfl) (fun L0 => v_nil rfl rfl) ?_
      refine h_take 18 rfl rfl (by kernel_rfl) (by kernel_rfl) (by kernel_rfl) (fun L0 => v_fieldAddr (q := ⟨m53, 1, none⟩) rfl rfl Try.underlying54 rfl ti43 rfl) ?_
      refine h_one 19 rfl (by kernel_rfl) ?_
      refine l_in2 (l_f1 ?_)
      refine o_store1 rfl rfl rfl ti43 rfl rfl ?_
      refine l_nil (q_out2 (h_next ?_))
      refine h_done (by kernel_rfl) ?_
      refine q_in2 (q_block (q_then (c_region (o_move rfl rfl ?_))))
      refine o_bin rfl rfl rfl (b_sub (show IntKind.u64.wrap ((m : Int) - 1) = ((m - 1 : Nat) : Int) from by rw [wrap_u64 (by omega) (by omega)]; omega)) ?_
      refine o_assign rfl rfl (l_nil ?_)
      have hxP : proj (⟨bts out60, ⟨decide (((byteR ys60).1.toNat : Int) = 1), ⟨a70, out70, c70⟩, ((numR 0 0 ys70).1 : Int), ((numR 0 0 ys75).1 : Int)⟩⟩ : ItA) = rowP yse := by unfold rowP rdKey rdVal rdCnt rdHas; rw [e3, ← f60, ← f65, ← f75, ← u8dec, ← hout60, ← hout70]; rfl
      refine qP p4 (qP p3 (qP p3 (qP p3 (qP p5 (qP p5 ?_)))))
      refine q_conv (L' := vals (xs ++ [(⟨bts out60, ⟨decide (((byteR ys60).1.toNat : Int) = 1), ⟨a70, out70, c70⟩, ((numR 0 0 ys70).1 : Int), ((numR 0 0 ys75).1 : Int)⟩⟩ : ItA)]) :: _) (fun w S => Sat.vals_app (x := (⟨bts out60, ⟨decide (((byteR ys60).1.toNat : Int) = 1), ⟨a70, out70, c70⟩, ((numR 0 0 ys70).1 : Int), ((numR 0 0 ys75).1 : Int)⟩⟩ : ItA)) S) ?_
      refine qP p4 (qT (qP p3 (qP p1 (qP p3 (qP p3 ?_)))))
      exact q_round (m - 1, i80, ys80, xs ++ [(⟨bts out60, ⟨decide (((byteR ys60).1.toNat : Int) = 1), ⟨a70, out70, c70⟩, ((numR 0 0 ys70).1 : Int), ((numR 0 0 ys75).1 : Int)⟩⟩ : ItA)], a166, c166) (by exact ⟨by dsimp only; omega, he80, q7 _ _ hxP f80⟩) (by (try dsimp only); omega) ⟨vr, vr, vr, vr, trivial⟩ (fun w S => S)
     · -- 15 comes first
      refine l_in2 ?_
      refine o_lit e_Row_ok rfl Try.underlying43 rfl rfl rfl (lit_ok rfl) [(⟨bts out60, ⟨decide (((byteR ys60).1.toNat : Int) = 1), ⟨a70, out70, c70⟩, ((numR 0 0 ys70).1 : Int), ((numR 0 0 ys75).1 : Int)⟩⟩ : ItA)] rfl rfl fun a165 => ?_
      refine l_nil (q_out3 (h_next ?_))
      refine h_one 4 rfl (by kernel_rfl) ?_
      refine l_in3 ?_
      refine o_load1 rfl rfl Try.underlying43 rfl (rd_mem 1 rfl rfl) ?_
      refine l_nil (q_out3 (h_next ?_))
      refine h_one 16 rfl (by kernel_rfl) ?_
      refine l_in3 (l_f2 ?_)
      refine o_append e_Row_ok rfl rfl rfl Try.underlying43 (rds_own e_Row_ok 1 rfl) (by show (_ + _) * 64 ≤ _; (try simp only [List.length_append, List.length_cons, List.length_nil]); omega) (by (try simp only [List.length_append, List.length_cons, List.length_nil]); omega) fun a166 c166 => ?_
      refine l_f1 ?_
      refine l_drop ?_
      refine l_nil (q_out2 (h_next ?_))
      refine h_take 17 rfl rfl (by kernel_rfl) (by kernel_rfl) (by kernel_rfl) (fun L0 => v_nil rfl rfl) ?_
      refine h_take 18 rfl rfl (by kernel_rfl) (by kernel_rfl) (by kernel_rfl) (fun L0 => v_fieldAddr (q := ⟨m53, 1, none⟩) rfl rfl Try.underlying54 rfl ti43 rfl) ?_
      refine h_one 19 rfl (by kernel_rfl) ?_
      refine l_in2 (l_f1 ?_)
      refine o_store1 rfl rfl rfl ti43 rfl rfl ?_
      refine l_nil (q_out2 (h_next ?_))
      refine h_done (by kernel_rfl) ?_
      refine q_in2 (q_block (q_then (c_region (o_move rfl rfl ?_))))
      refine o_bin rfl rfl rfl (b_sub (show IntKind.u64.wrap ((m : Int) - 1) = ((m - 1 : Nat) : Int) from by rw [wrap_u64 (by omega) (by omega)]; omega)) ?_
      refine o_assign rfl rfl (l_nil ?_)
      have hxP : proj (⟨bts out60, ⟨decide (((byteR ys60).1.toNat : Int) = 1), ⟨a70, out70, c70⟩, ((numR 0 0 ys70).1 : Int), ((numR 0 0 ys75).1 : Int)⟩⟩ : ItA) = rowP yse := by unfold rowP rdKey rdVal rdCnt rdHas; rw [e3, ← f60, ← f65, ← f75, ← u8dec, ← hout60, ← hout70]; rfl
      refine qP p4 (qP p3 (qP p3 (qP p3 (qP p5 (qP p5 ?_)))))
      refine q_conv (L' := vals (xs ++ [(⟨bts out60, ⟨decide (((byteR ys60).1.toNat : Int) = 1), ⟨a70, out70, c70⟩, ((numR 0 0 ys70).1 : Int), ((numR 0 0 ys75).1 : Int)⟩⟩ : ItA)]) :: _) (fun w S => Sat.vals_app (x := (⟨bts out60, ⟨decide (((byteR ys60).1.toNat : Int) = 1), ⟨a70, out70, c70⟩, ((numR 0 0 ys70).1 : Int), ((numR 0 0 ys75).1 : Int)⟩⟩ : ItA)) S) ?_
      refine qP p4 (qT (qP p3 (qP p1 (qP p3 (qP p3 ?_)))))
      exact q_round (m - 1, i80, ys80, xs ++ [(⟨bts out60, ⟨decide (((byteR ys60).1.toNat : Int) = 1), ⟨a70, out70, c70⟩, ((numR 0 0 ys70).1 : Int), ((numR 0 0 ys75).1 : Int)⟩⟩ : ItA)], a166, c166) (by exact ⟨by dsimp only; omega, he80, q7 _ _ hxP f80⟩) (by (try dsimp only); omega) ⟨vr, vr, vr, vr, trivial⟩ (fun w S => S)
   · -- h3F
    have h3b := h3
    try simp only [decide_eq_false_iff_not, Int.not_lt, Int.not_le] at h3
    refine o_no rfl rfl rfl rfl (o_no rfl rfl rfl rfl (o_no rfl rfl rfl rfl (o_no rfl rfl rfl rfl (o_no rfl rfl rfl rfl (o_no rfl rfl rfl rfl (o_no rfl rfl rfl rfl (o_yes rfl rfl rfl (o_pick_false rfl rfl rfl (o_pick_false rfl rfl rfl ?_)))))))))
    refine l_nil (q_then (c_false rfl (c_skip (q_then (c_seq ?_)))))
    have hxl := hdr.len
    have hh3 : (numR 0 0 ys70).1 < 3 := by omega
    have e3 : rdHome yse % 3 = (numR 0 0 ys70).1 := by rw [f70]; exact Nat.mod_eq_of_lt (by show (numR 0 0 (y3 yse)).1 < 3; rw [← f70]; exact hh3)
    refine c_region (o_move rfl rfl (o_nil rfl rfl ?_))
    refine o_fieldAddr (q := ⟨m53, 1, none⟩) rfl rfl Try.underlying54 rfl ti43 rfl ?_
    refine o_load1 rfl rfl Try.underlying43 rfl (rd_mem 3 rfl rfl) ?_
    refine o_len rfl rfl Try.underlying43 ?_
    refine o_bin rfl rfl rfl (b_sub (wrap_i64 (by omega) (by omega))) ?_
    refine o_assign rfl rfl (l_nil (q_then (c_seq (c_seq ?_))))
    refine (Classical.em (0 < xs.length)).elim (fun hne => ?_) (fun hne => ?_)
    · -- hne True
     refine c_fact (p := ∃ ad, ax = some ad) (rds_some (e := e_Row) (xs := xs) (rds_own e_Row_ok 4 rfl) (by intro h0; rw [h0] at hne; simp at hne)) ?_
     rintro ⟨adx, eadx⟩
     refine c_quiet (by kernel_rfl) (by kernel_rfl) ?_
     refine Qt.o_val rfl (v_move rfl rfl) ?_
     refine Qt.o_val rfl (v_bin rfl rfl rfl b_geq) ?_
     refine Qt.l_eq (t := 136) (v' := .bool true) rfl (show _ = Value.bool true from by rw [decide_eq_true (by omega)]) ?_
     refine Qt.o_val rfl (v_move rfl rfl) (Qt.o_yes rfl rfl rfl (Qt.o_val rfl (v_move rfl rfl) (Qt.o_yes rfl rfl rfl (Qt.o_val rfl (v_nil rfl rfl) (Qt.o_yes rfl rfl rfl ?_)))))
     refine Qt.o_val rfl (v_fieldAddr (q := ⟨m53, 1, none⟩) rfl rfl Try.underlying54 rfl ti43 rfl) ?_
     refine Qt.o_yes rfl rfl rfl ?_
     refine Qt.o_val rfl (v_load1 rfl rfl Try.underlying43 rfl (rd_mem 3 rfl rfl)) ?_
     refine Qt.o_yes rfl rfl rfl (Qt.o_val rfl (v_move rfl rfl) (Qt.o_yes rfl rfl rfl ?_))
     refine Qt.o_val rfl (v_indexK e_Row_ok eadx rfl rfl rfl Try.underlying43 (by omega) (by omega)) ?_
     obtain ⟨x143, hx143⟩ : ∃ x, (xs)[(((xs).length : Int) - 1).toNat]? = some x := ⟨_, List.getElem?_eq_getElem (by omega)⟩
     refine Qt.o_yes rfl rfl rfl ?_
     refine Qt.o_val rfl (v_fieldAddr rfl rfl Try.underlying49 rfl ti9 (Addr.add_add' _ _ _)) ?_
     refine Qt.o_yes rfl rfl rfl ?_
     refine Qt.o_val rfl (v_load1 rfl rfl Try.underlying9 rfl (rd_sl e_Row_ok eadx (rds_own e_Row_ok 4 rfl) hx143 rfl)) ?_
     refine Qt.o_yes rfl rfl rfl (Qt.o_val rfl (v_move rfl rfl) (Qt.o_yes rfl rfl rfl ?_))
     refine Qt.o_val rfl (v_bytesStr (e := e8) rfl rfl rfl Try.underlying23 Try.underlying5 Try.underlying9 (rds_own e8_ok 2 rfl)) ?_
     refine Qt.o_yes rfl rfl rfl ?_
     refine Qt.o_val rfl (v_bin rfl rfl rfl b_sgeq) ?_
     refine Qt.l_eq (t := 148) (v' := .bool false) rfl (show _ = Value.bool false from by rw [show slt x143.f_key (bts out60) = true from hkP x143 (List.mem_of_getElem? hx143)]; rfl) ?_
     refine Qt.o_val rfl (v_pick_true rfl rfl rfl) ?_
     refine Qt.l_nil ?_
     refine q_then (c_false rfl (c_skip (q_then (cP p4 (cP p4 (cP p5 (cP p5 (cP p5 (cP p5 ?_)))))))))
     refine cP p3 (cP p3 (cP p3 (cP p3 (cP p5 (cP p5 ?_)))))
     refine c_heldF [blk m53 (.cells #[.int .i64 n, .slice ax (xs).length cx] 54 (0, 0)), row e_Row.T e_Row.sz ax (xs).length cx (flat e_Row xs)] (blk ke (.cells #[.slice a (bs).length c, .int .i64 (i80 : Int)] 92 (0, 0)) :: row e8.T e8.sz a70 (out70).length c70 (flat e8 out70) :: row e8.T e8.sz a60 (out60).length c60 (flat e8 out60) :: vals xs :: F) (by kernel_rfl) ?_
     refine h_take 0 rfl rfl (by kernel_rfl) (by kernel_rfl) (by kernel_rfl) (fun L0 => v_move rfl rfl) ?_
     refine h_take 1 rfl rfl (by kernel_rfl) (by kernel_rfl) (by kernel_rfl) (fun L0 => v_move rfl rfl) ?_
     refine h_take 2 rfl rfl (by kernel_rfl) (by kernel_rfl) (by kernel_rfl) (fun L0 => v_nil rfl rfl) ?_
     refine h_take 3 rfl rfl (by kernel_rfl) (by kernel_rfl) (by kernel_rfl) (fun L0 => v_fieldAddr (q := ⟨m53, 1, none⟩) rfl rfl Try.underlying54 rfl ti43 rfl) ?_
     refine h_take 5 rfl rfl (by kernel_rfl) (by kernel_rfl) (by kernel_rfl) (fun L0 => v_move rfl rfl) ?_
     refine h_take 6 rfl rfl (by kernel_rfl) (by kernel_rfl) (by kernel_rfl) (fun L0 => v_bytesStr (e := e8) rfl rfl rfl Try.underlying23 Try.underlying5 Try.underlying9 (rds_own e8_ok 2 rfl)) ?_
     refine h_take 7 rfl rfl (by kernel_rfl) (by kernel_rfl) (by kernel_rfl) (fun L0 => v_move rfl rfl) ?_
     refine h_take 8 rfl rfl (by kernel_rfl) (by kernel_rfl) (by kernel_rfl) (fun L0 => v_bin rfl rfl rfl b_eql) ?_
     refine h_take 9 rfl rfl (by kernel_rfl) (by kernel_rfl) (by kernel_rfl) (fun L0 => v_move rfl rfl) ?_
     refine h_take 10 rfl rfl (by kernel_rfl) (by kernel_rfl) (by kernel_rfl) (fun L0 => v_move rfl rfl) ?_
     refine h_take 11 rfl rfl (by kernel_rfl) (by kernel_rfl) (by kernel_rfl) (fun L0 => v_int rfl rfl Try.underlying34 Try.underlying3 (wrap_i64 (by omega) (by omega))) ?_
     refine h_take 12 rfl rfl (by kernel_rfl) (by kernel_rfl) (by kernel_rfl) (fun L0 => v_move rfl rfl) ?_
     refine h_take 13 rfl rfl (by kernel_rfl) (by kernel_rfl) (by kernel_rfl) (fun L0 => v_build rfl sp36 ti36 rfl ((fill_cons (cells' := [.bool (decide (((byteR ys60).1.toNat : Int) = 1)), .slice none 0 0, .int .i64 0, .int .u64 0]) rfl rfl rfl rfl (fill_cons (cells' := [.bool (decide (((byteR ys60).1.toNat : Int) = 1)), .slice a70 (out70).length c70, .int .i64 0, .int .u64 0]) rfl rfl rfl rfl (fill_cons (cells' := [.bool (decide (((byteR ys60).1.toNat : Int) = 1)), .slice a70 (out70).length c70, .int .i64 ((numR 0 0 ys70).1 : Int), .int .u64 0]) rfl rfl rfl rfl (fill_cons (cells' := [.bool (decide (((byteR ys60).1.toNat : Int) = 1)), .slice a70 (out70).length c70, .int .i64 ((numR 0 0 ys70).1 : Int), .int .u64 ((numR 0 0 ys75).1 : Int)]) rfl rfl rfl rfl fill_nil)))))) ?_
     refine h_take 14 rfl rfl (by kernel_rfl) (by kernel_rfl) (by kernel_rfl) (fun L0 => v_build rfl sp49 ti49 rfl ((fill_cons (cells' := [.string (bts out60), .bool false, .slice none 0 0, .int .i64 0, .int .u64 0]) rfl rfl rfl rfl (fill_cons (cells' := [.string (bts out60), .bool (decide (((byteR ys60).1.toNat : Int) = 1)), .slice a70 (out70).length c70, .int .i64 ((numR 0 0 ys70).1 : Int), .int .u64 ((numR 0 0 ys75).1 : Int)]) rfl rfl rfl rfl fill_nil)))) ?_
     refine h_many (is := [4, 15]) (by kernel_rfl) (by decide) (forall_cons ⟨_, rfl, ?_⟩ (forall_cons ⟨_, rfl, ?_⟩ forall_nil))
     · -- 4 comes first
      refine l_in2 ?_
      refine o_load1 rfl rfl Try.underlying43 rfl (rd_mem 0 rfl rfl) ?_
      refine l_nil (q_out2 (h_next ?_))
      refine h_one 15 rfl (by kernel_rfl) ?_
      refine l_in2 ?_
      refine o_lit e_Row_ok rfl Try.underlying43 rfl rfl rfl (lit_ok rfl) [(⟨bts out60, ⟨decide (((byteR ys60).1.toNat : Int) = 1), ⟨a70, out70, c70⟩, ((numR 0 0 ys70).1 : Int), ((numR 0 0 ys75).1 : Int)⟩⟩ : ItA)] rfl rfl fun a165 => ?_
      refine l_nil (q_out3 (h_next ?_))
      refine h_one 16 rfl (by kernel_rfl) ?_
      refine l_in3 (l_f2 ?_)
      refine o_append e_Row_ok rfl rfl rfl Try.underlying43 (rds_own e_Row_ok 1 rfl) (by show (_ + _) * 64 ≤ _; (try simp only [List.length_append, List.length_cons, List.length_nil]); omega) (by (try simp only [List.length_append, List.length_cons, List.length_nil]); omega) fun a166 c166 => ?_
      refine l_f1 ?_
      refine l_drop ?_
      refine l_nil (q_out2 (h_next ?_))
      refine h_take 17 rfl rfl (by kernel_rfl) (by kernel_rfl) (by kernel_rfl) (fun L0 => v_nil rfl rfl) ?_
      refine h_take 18 rfl rfl (by kernel_rfl) (by kernel_rfl) (by kernel_rfl) (fun L0 => v_fieldAddr (q := ⟨m53, 1, none⟩) rfl rfl Try.underlying54 rfl ti43 rfl) ?_
      refine h_one 19 rfl (by kernel_rfl) ?_
      refine l_in2 (l_f1 ?_)
      refine o_store1 rfl rfl rfl ti43 rfl rfl ?_
      refine l_nil (q_out2 (h_next ?_))
      refine h_done (by kernel_rfl) ?_
      refine q_in2 (q_block (q_then (c_region (o_move rfl rfl ?_))))
      refine o_bin rfl rfl rfl (b_sub (show IntKind.u64.wrap ((m : Int) - 1) = ((m - 1 : Nat) : Int) from by rw [wrap_u64 (by omega) (by omega)]; omega)) ?_
      refine o_assign rfl rfl (l_nil ?_)
      have hxP : proj (⟨bts out60, ⟨decide (((byteR ys60).1.toNat : Int) = 1), ⟨a70, out70, c70⟩, ((numR 0 0 ys70).1 : Int), ((numR 0 0 ys75).1 : Int)⟩⟩ : ItA) = rowP yse := by unfold rowP rdKey rdVal rdCnt rdHas; rw [e3, ← f60, ← f65, ← f75, ← u8dec, ← hout60, ← hout70]; rfl
      refine qP p4 (qP p3 (qP p3 (qP p3 (qP p5 (qP p5 ?_)))))
      refine q_conv (L' := vals (xs ++ [(⟨bts out60, ⟨decide (((byteR ys60).1.toNat : Int) = 1), ⟨a70, out70, c70⟩, ((numR 0 0 ys70).1 : Int), ((numR 0 0 ys75).1 : Int)⟩⟩ : ItA)]) :: _) (fun w S => Sat.vals_app (x := (⟨bts out60, ⟨decide (((byteR ys60).1.toNat : Int) = 1), ⟨a70, out70, c70⟩, ((numR 0 0 ys70).1 : Int), ((numR 0 0 ys75).1 : Int)⟩⟩ : ItA)) S) ?_
      refine qP p4 (qT (qP p3 (qP p1 (qP p3 (qP p3 ?_)))))
      exact q_round (m - 1, i80, ys80, xs ++ [(⟨bts out60, ⟨decide (((byteR ys60).1.toNat : Int) = 1), ⟨a70, out70, c70⟩, ((numR 0 0 ys70).1 : Int), ((numR 0 0 ys75).1 : Int)⟩⟩ : ItA)], a166, c166) (by exact ⟨by dsimp only; omega, he80, q7 _ _ hxP f80⟩) (by (try dsimp only); omega) ⟨vr, vr, vr, vr, trivial⟩ (fun w S => S)
     · -- 15 comes first
      refine l_in2 ?_
      refine o_lit e_Row_ok rfl Try.underlying43 rfl rfl rfl (lit_ok rfl) [(⟨bts out60, ⟨decide (((byteR ys60).1.toNat : Int) = 1), ⟨a70, out70, c70⟩, ((numR 0 0 ys70).1 : Int), ((numR 0 0 ys75).1 : Int)⟩⟩ : ItA)] rfl rfl fun a165 => ?_
      refine l_nil (q_out3 (h_next ?_))
      refine h_one 4 rfl (by kernel_rfl) ?_
      refine l_in3 ?_
      refine o_load1 rfl rfl Try.underlying43 rfl (rd_mem 1 rfl rfl) ?_
      refine l_nil (q_out3 (h_next ?_))
      refine h_one 16 rfl (by kernel_rfl) ?_
      refine l_in3 (l_f2 ?_)
      refine o_append e_Row_ok rfl rfl rfl Try.underlying43 (rds_own e_Row_ok 1 rfl) (by show (_ + _) * 64 ≤ _; (try simp only [List.length_append, List.length_cons, List.length_nil]); omega) (by (try simp only [List.length_append, List.length_cons, List.length_nil]); omega) fun a166 c166 => ?_
      refine l_f1 ?_
      refine l_drop ?_
      refine l_nil (q_out2 (h_next ?_))
      refine h_take 17 rfl rfl (by kernel_rfl) (by kernel_rfl) (by kernel_rfl) (fun L0 => v_nil rfl rfl) ?_
      refine h_take 18 rfl rfl (by kernel_rfl) (by kernel_rfl) (by kernel_rfl) (fun L0 => v_fieldAddr (q := ⟨m53, 1, none⟩) rfl rfl Try.underlying54 rfl ti43 rfl) ?_
      refine h_one 19 rfl (by kernel_rfl) ?_
      refine l_in2 (l_f1 ?_)
      refine o_store1 rfl rfl rfl ti43 rfl rfl ?_
      refine l_nil (q_out2 (h_next ?_))
      refine h_done (by kernel_rfl) ?_
      refine q_in2 (q_block (q_then (c_region (o_move rfl rfl ?_))))
      refine o_bin rfl rfl rfl (b_sub (show IntKind.u64.wrap ((m : Int) - 1) = ((m - 1 : Nat) : Int) from by rw [wrap_u64 (by omega) (by omega)]; omega)) ?_
      refine o_assign rfl rfl (l_nil ?_)
      have hxP : proj (⟨bts out60, ⟨decide (((byteR ys60).1.toNat : Int) = 1), ⟨a70, out70, c70⟩, ((numR 0 0 ys70).1 : Int), ((numR 0 0 ys75).1 : Int)⟩⟩ : ItA) = rowP yse := by unfold rowP rdKey rdVal rdCnt rdHas; rw [e3, ← f60, ← f65, ← f75, ← u8dec, ← hout60, ← hout70]; rfl
      refine qP p4 (qP p3 (qP p3 (qP p3 (qP p5 (qP p5 ?_)))))
      refine q_conv (L' := vals (xs ++ [(⟨bts out60, ⟨decide (((byteR ys60).1.toNat : Int) = 1), ⟨a70, out70, c70⟩, ((numR 0 0 ys70).1 : Int), ((numR 0 0 ys75).1 : Int)⟩⟩ : ItA)]) :: _) (fun w S => Sat.vals_app (x := (⟨bts out60, ⟨decide (((byteR ys60).1.toNat : Int) = 1), ⟨a70, out70, c70⟩, ((numR 0 0 ys70).1 : Int), ((numR 0 0 ys75).1 : Int)⟩⟩ : ItA)) S) ?_
      refine qP p4 (qT (qP p3 (qP p1 (qP p3 (qP p3 ?_)))))
      exact q_round (m - 1, i80, ys80, xs ++ [(⟨bts out60, ⟨decide (((byteR ys60).1.toNat : Int) = 1), ⟨a70, out70, c70⟩, ((numR 0 0 ys70).1 : Int), ((numR 0 0 ys75).1 : Int)⟩⟩ : ItA)], a166, c166) (by exact ⟨by dsimp only; omega, he80, q7 _ _ hxP f80⟩) (by (try dsimp only); omega) ⟨vr, vr, vr, vr, trivial⟩ (fun w S => S)
    · -- hne False
     refine c_quiet (by kernel_rfl) (by kernel_rfl) ?_
     refine Qt.o_val rfl (v_move rfl rfl) ?_
     refine Qt.o_val rfl (v_bin rfl rfl rfl b_geq) ?_
     refine Qt.l_eq (t := 136) (v' := .bool false) rfl (show _ = Value.bool false from by rw [decide_eq_false (by omega)]) ?_
     refine Qt.o_val rfl (v_move rfl rfl) ?_
     refine Qt.o_no rfl rfl rfl rfl ?_
     refine Qt.o_no rfl rfl rfl rfl ?_
     refine Qt.o_no rfl rfl rfl rfl ?_
     refine Qt.o_no rfl rfl rfl rfl ?_
     refine Qt.o_no rfl rfl rfl rfl ?_
     refine Qt.o_no rfl rfl rfl rfl ?_
     refine Qt.o_no rfl rfl rfl rfl ?_
     refine Qt.o_no rfl rfl rfl rfl ?_
     refine Qt.o_no rfl rfl rfl rfl ?_
     refine Qt.o_no rfl rfl rfl rfl ?_
     refine Qt.o_no rfl rfl rfl rfl ?_
     refine Qt.o_val rfl (v_pick_false rfl rfl rfl) ?_
     refine Qt.l_nil ?_
     refine q_then (c_false rfl (c_skip (q_then (cP p4 (cP p4 (cP p5 (cP p5 (cP p5 (cP p5 ?_)))))))))
     refine cP p3 (cP p3 (cP p3 (cP p3 (cP p5 (cP p5 ?_)))))
     refine c_heldF [blk m53 (.cells #[.int .i64 n, .slice ax (xs).length cx] 54 (0, 0)), row e_Row.T e_Row.sz ax (xs).length cx (flat e_Row xs)] (blk ke (.cells #[.slice a (bs).length c, .int .i64 (i80 : Int)] 92 (0, 0)) :: row e8.T e8.sz a70 (out70).length c70 (flat e8 out70) :: row e8.T e8.sz a60 (out60).length c60 (flat e8 out60) :: vals xs :: F) (by kernel_rfl) ?_
     refine h_take 0 rfl rfl (by kernel_rfl) (by kernel_rfl) (by kernel_rfl) (fun L0 => v_move rfl rfl) ?_
     refine h_take 1 rfl rfl (by kernel_rfl) (by kernel_rfl) (by kernel_rfl) (fun L0 => v_move rfl rfl) ?_
     refine h_take 2 rfl rfl (by kernel_rfl) (by kernel_rfl) (by kernel_rfl) (fun L0 => v_nil rfl rfl) ?_
     refine h_take 3 rfl rfl (by kernel_rfl) (by kernel_rfl) (by kernel_rfl) (fun L0 => v_fieldAddr (q := ⟨m53, 1, none⟩) rfl rfl Try.underlying54 rfl ti43 rfl) ?_
     refine h_take 5 rfl rfl (by kernel_rfl) (by kernel_rfl) (by kernel_rfl) (fun L0 => v_move rfl rfl) ?_
     refine h_take 6 rfl rfl (by kernel_rfl) (by kernel_rfl) (by kernel_rfl) (fun L0 => v_bytesStr (e := e8) rfl rfl rfl Try.underlying23 Try.underlying5 Try.underlying9 (rds_own e8_ok 2 rfl)) ?_
     refine h_take 7 rfl rfl (by kernel_rfl) (by kernel_rfl) (by kernel_rfl) (fun L0 => v_move rfl rfl) ?_
     refine h_take 8 rfl rfl (by kernel_rfl) (by kernel_rfl) (by kernel_rfl) (fun L0 => v_bin rfl rfl rfl b_eql) ?_
     refine h_take 9 rfl rfl (by kernel_rfl) (by kernel_rfl) (by kernel_rfl) (fun L0 => v_move rfl rfl) ?_
     refine h_take 10 rfl rfl (by kernel_rfl) (by kernel_rfl) (by kernel_rfl) (fun L0 => v_move rfl rfl) ?_
     refine h_take 11 rfl rfl (by kernel_rfl) (by kernel_rfl) (by kernel_rfl) (fun L0 => v_int rfl rfl Try.underlying34 Try.underlying3 (wrap_i64 (by omega) (by omega))) ?_
     refine h_take 12 rfl rfl (by kernel_rfl) (by kernel_rfl) (by kernel_rfl) (fun L0 => v_move rfl rfl) ?_
     refine h_take 13 rfl rfl (by kernel_rfl) (by kernel_rfl) (by kernel_rfl) (fun L0 => v_build rfl sp36 ti36 rfl ((fill_cons (cells' := [.bool (decide (((byteR ys60).1.toNat : Int) = 1)), .slice none 0 0, .int .i64 0, .int .u64 0]) rfl rfl rfl rfl (fill_cons (cells' := [.bool (decide (((byteR ys60).1.toNat : Int) = 1)), .slice a70 (out70).length c70, .int .i64 0, .int .u64 0]) rfl rfl rfl rfl (fill_cons (cells' := [.bool (decide (((byteR ys60).1.toNat : Int) = 1)), .slice a70 (out70).length c70, .int .i64 ((numR 0 0 ys70).1 : Int), .int .u64 0]) rfl rfl rfl rfl (fill_cons (cells' := [.bool (decide (((byteR ys60).1.toNat : Int) = 1)), .slice a70 (out70).length c70, .int .i64 ((numR 0 0 ys70).1 : Int), .int .u64 ((numR 0 0 ys75).1 : Int)]) rfl rfl rfl rfl fill_nil)))))) ?_
     refine h_take 14 rfl rfl (by kernel_rfl) (by kernel_rfl) (by kernel_rfl) (fun L0 => v_build rfl sp49 ti49 rfl ((fill_cons (cells' := [.string (bts out60), .bool false, .slice none 0 0, .int .i64 0, .int .u64 0]) rfl rfl rfl rfl (fill_cons (cells' := [.string (bts out60), .bool (decide (((byteR ys60).1.toNat : Int) = 1)), .slice a70 (out70).length c70, .int .i64 ((numR 0 0 ys70).1 : Int), .int .u64 ((numR 0 0 ys75).1 : Int)]) rfl rfl rfl rfl fill_nil)))) ?_
     refine h_many (is := [4, 15]) (by kernel_rfl) (by decide) (forall_cons ⟨_, rfl, ?_⟩ (forall_cons ⟨_, rfl, ?_⟩ forall_nil))
     · -- 4 comes first
      refine l_in2 ?_
      refine o_load1 rfl rfl Try.underlying43 rfl (rd_mem 0 rfl rfl) ?_
      refine l_nil (q_out2 (h_next ?_))
      refine h_one 15 rfl (by kernel_rfl) ?_
      refine l_in2 ?_
      refine o_lit e_Row_ok rfl Try.underlying43 rfl rfl rfl (lit_ok rfl) [(⟨bts out60, ⟨decide (((byteR ys60).1.toNat : Int) = 1), ⟨a70, out70, c70⟩, ((numR 0 0 ys70).1 : Int), ((numR 0 0 ys75).1 : Int)⟩⟩ : ItA)] rfl rfl fun a165 => ?_
      refine l_nil (q_out3 (h_next ?_))
      refine h_one 16 rfl (by kernel_rfl) ?_
      refine l_in3 (l_f2 ?_)
      refine o_append e_Row_ok rfl rfl rfl Try.underlying43 (rds_own e_Row_ok 1 rfl) (by show (_ + _) * 64 ≤ _; (try simp only [List.length_append, List.length_cons, List.length_nil]); omega) (by (try simp only [List.length_append, List.length_cons, List.length_nil]); omega) fun a166 c166 => ?_
      refine l_f1 ?_
      refine l_drop ?_
      refine l_nil (q_out2 (h_next ?_))
      refine h_take 17 rfl rfl (by kernel_rfl) (by kernel_rfl) (by kernel_rfl) (fun L0 => v_nil rfl rfl) ?_
      refine h_take 18 rfl rfl (by kernel_rfl) (by kernel_rfl) (by kernel_rfl) (fun L0 => v_fieldAddr (q := ⟨m53, 1, none⟩) rfl rfl Try.underlying54 rfl ti43 rfl) ?_
      refine h_one 19 rfl (by kernel_rfl) ?_
      refine l_in2 (l_f1 ?_)
      refine o_store1 rfl rfl rfl ti43 rfl rfl ?_
      refine l_nil (q_out2 (h_next ?_))
      refine h_done (by kernel_rfl) ?_
      refine q_in2 (q_block (q_then (c_region (o_move rfl rfl ?_))))
      refine o_bin rfl rfl rfl (b_sub (show IntKind.u64.wrap ((m : Int) - 1) = ((m - 1 : Nat) : Int) from by rw [wrap_u64 (by omega) (by omega)]; omega)) ?_
      refine o_assign rfl rfl (l_nil ?_)
      have hxP : proj (⟨bts out60, ⟨decide (((byteR ys60).1.toNat : Int) = 1), ⟨a70, out70, c70⟩, ((numR 0 0 ys70).1 : Int), ((numR 0 0 ys75).1 : Int)⟩⟩ : ItA) = rowP yse := by unfold rowP rdKey rdVal rdCnt rdHas; rw [e3, ← f60, ← f65, ← f75, ← u8dec, ← hout60, ← hout70]; rfl
      refine qP p4 (qP p3 (qP p3 (qP p3 (qP p5 (qP p5 ?_)))))
      refine q_conv (L' := vals (xs ++ [(⟨bts out60, ⟨decide (((byteR ys60).1.toNat : Int) = 1), ⟨a70, out70, c70⟩, ((numR 0 0 ys70).1 : Int), ((numR 0 0 ys75).1 : Int)⟩⟩ : ItA)]) :: _) (fun w S => Sat.vals_app (x := (⟨bts out60, ⟨decide (((byteR ys60).1.toNat : Int) = 1), ⟨a70, out70, c70⟩, ((numR 0 0 ys70).1 : Int), ((numR 0 0 ys75).1 : Int)⟩⟩ : ItA)) S) ?_
      refine qP p4 (qT (qP p3 (qP p1 (qP p3 (qP p3 ?_)))))
      exact q_round (m - 1, i80, ys80, xs ++ [(⟨bts out60, ⟨decide (((byteR ys60).1.toNat : Int) = 1), ⟨a70, out70, c70⟩, ((numR 0 0 ys70).1 : Int), ((numR 0 0 ys75).1 : Int)⟩⟩ : ItA)], a166, c166) (by exact ⟨by dsimp only; omega, he80, q7 _ _ hxP f80⟩) (by (try dsimp only); omega) ⟨vr, vr, vr, vr, trivial⟩ (fun w S => S)
     · -- 15 comes first
      refine l_in2 ?_
      refine o_lit e_Row_ok rfl Try.underlying43 rfl rfl rfl (lit_ok rfl) [(⟨bts out60, ⟨decide (((byteR ys60).1.toNat : Int) = 1), ⟨a70, out70, c70⟩, ((numR 0 0 ys70).1 : Int), ((numR 0 0 ys75).1 : Int)⟩⟩ : ItA)] rfl rfl fun a165 => ?_
      refine l_nil (q_out3 (h_next ?_))
      refine h_one 4 rfl (by kernel_rfl) ?_
      refine l_in3 ?_
      refine o_load1 rfl rfl Try.underlying43 rfl (rd_mem 1 rfl rfl) ?_
      refine l_nil (q_out3 (h_next ?_))
      refine h_one 16 rfl (by kernel_rfl) ?_
      refine l_in3 (l_f2 ?_)
      refine o_append e_Row_ok rfl rfl rfl Try.underlying43 (rds_own e_Row_ok 1 rfl) (by show (_ + _) * 64 ≤ _; (try simp only [List.length_append, List.length_cons, List.length_nil]); omega) (by (try simp only [List.length_append, List.length_cons, List.length_nil]); omega) fun a166 c166 => ?_
      refine l_f1 ?_
      refine l_drop ?_
      refine l_nil (q_out2 (h_next ?_))
      refine h_take 17 rfl rfl (by kernel_rfl) (by kernel_rfl) (by kernel_rfl) (fun L0 => v_nil rfl rfl) ?_
      refine h_take 18 rfl rfl (by kernel_rfl) (by kernel_rfl) (by kernel_rfl) (fun L0 => v_fieldAddr (q := ⟨m53, 1, none⟩) rfl rfl Try.underlying54 rfl ti43 rfl) ?_
      refine h_one 19 rfl (by kernel_rfl) ?_
      refine l_in2 (l_f1 ?_)
      refine o_store1 rfl rfl rfl ti43 rfl rfl ?_
      refine l_nil (q_out2 (h_next ?_))
      refine h_done (by kernel_rfl) ?_
      refine q_in2 (q_block (q_then (c_region (o_move rfl rfl ?_))))
      refine o_bin rfl rfl rfl (b_sub (show IntKind.u64.wrap ((m : Int) - 1) = ((m - 1 : Nat) : Int) from by rw [wrap_u64 (by omega) (by omega)]; omega)) ?_
      refine o_assign rfl rfl (l_nil ?_)
      have hxP : proj (⟨bts out60, ⟨decide (((byteR ys60).1.toNat : Int) = 1), ⟨a70, out70, c70⟩, ((numR 0 0 ys70).1 : Int), ((numR 0 0 ys75).1 : Int)⟩⟩ : ItA) = rowP yse := by unfold rowP rdKey rdVal rdCnt rdHas; rw [e3, ← f60, ← f65, ← f75, ← u8dec, ← hout60, ← hout70]; rfl
      refine qP p4 (qP p3 (qP p3 (qP p3 (qP p5 (qP p5 ?_)))))
      refine q_conv (L' := vals (xs ++ [(⟨bts out60, ⟨decide (((byteR ys60).1.toNat : Int) = 1), ⟨a70, out70, c70⟩, ((numR 0 0 ys70).1 : Int), ((numR 0 0 ys75).1 : Int)⟩⟩ : ItA)]) :: _) (fun w S => Sat.vals_app (x := (⟨bts out60, ⟨decide (((byteR ys60).1.toNat : Int) = 1), ⟨a70, out70, c70⟩, ((numR 0 0 ys70).1 : Int), ((numR 0 0 ys75).1 : Int)⟩⟩ : ItA)) S) ?_
      refine qP p4 (qT (qP p3 (qP p1 (qP p3 (qP p3 ?_)))))
      exact q_round (m - 1, i80, ys80, xs ++ [(⟨bts out60, ⟨decide (((byteR ys60).1.toNat : Int) = 1), ⟨a70, out70, c70⟩, ((numR 0 0 ys70).1 : Int), ((numR 0 0 ys75).1 : Int)⟩⟩ : ItA)], a166, c166) (by exact ⟨by dsimp only; omega, he80, q7 _ _ hxP f80⟩) (by (try dsimp only); omega) ⟨vr, vr, vr, vr, trivial⟩ (fun w S => S)
  · -- h2F
   have h2b := h2
   try simp only [decide_eq_false_iff_not, Int.not_lt, Int.not_le] at h2
   refine o_no rfl rfl rfl rfl (o_no rfl rfl rfl rfl (o_no rfl rfl rfl rfl (o_no rfl rfl rfl rfl (o_no rfl rfl rfl rfl (o_no rfl rfl rfl rfl (o_no rfl rfl rfl rfl (o_yes rfl rfl rfl (o_pick_false rfl rfl rfl (o_pick_false rfl rfl rfl ?_)))))))))
   refine o_move rfl rfl (o_yes rfl rfl rfl (o_move rfl rfl (o_yes rfl rfl rfl ?_)))
   refine o_bin rfl rfl rfl b_eql ?_
   refine o_yes rfl rfl rfl (o_move rfl rfl ?_)
   refine l_split (t := 119) rfl (fun h4 => ?_) (fun h4 => ?_)
   · -- h4T
    have h4b := h4
    try simp only [decide_eq_true_eq] at h4
    refine o_yes rfl rfl rfl (o_move rfl rfl (o_yes rfl rfl rfl ?_))
    refine o_int rfl rfl Try.underlying34 Try.underlying3 (wrap_i64 (by omega) (by omega)) ?_
    refine o_yes rfl rfl rfl (o_move rfl rfl (o_yes rfl rfl rfl ?_))
    refine o_bytesStr (e := e8) rfl rfl rfl Try.underlying23 Try.underlying5 Try.underlying9 (rds_own e8_ok 2 rfl) ?_
    refine o_yes rfl rfl rfl (o_move rfl rfl (o_yes rfl rfl rfl ?_))
    refine o_call rfl cal23 rfl (rdefault_ (k := (bts out60)) (n := n) (by rw [hout60]; have h9 := key_le (t := yse); exact Nat.le_trans h9 (by omega)) (by omega)) ?_
    rintro _ _ ⟨rfl, rfl⟩
    refine o_yes rfl rfl rfl ?_
    refine o_bin rfl rfl rfl b_neq ?_
    refine l_eq (t := 126) (v' := .bool false) rfl (show _ = Value.bool false from by rw [g9 (by omega)]; simp) ?_
    refine o_yes rfl rfl rfl (o_pick_true rfl rfl rfl (o_pick_false rfl rfl rfl (l_nil (q_then (c_false rfl (c_skip (q_then (c_seq ?_))))))))
    have hxl := hdr.len
    have hh3 : (numR 0 0 ys70).1 < 3 := by omega
    have e3 : rdHome yse % 3 = (numR 0 0 ys70).1 := by rw [f70]; exact Nat.mod_eq_of_lt (by show (numR 0 0 (y3 yse)).1 < 3; rw [← f70]; exact hh3)
    refine c_region (o_move rfl rfl (o_nil rfl rfl ?_))
    refine o_fieldAddr (q := ⟨m53, 1, none⟩) rfl rfl Try.underlying54 rfl ti43 rfl ?_
    refine o_load1 rfl rfl Try.underlying43 rfl (rd_mem 3 rfl rfl) ?_
    refine o_len rfl rfl Try.underlying43 ?_
    refine o_bin rfl rfl rfl (b_sub (wrap_i64 (by omega) (by omega))) ?_
    refine o_assign rfl rfl (l_nil (q_then (c_seq (c_seq ?_))))
    refine (Classical.em (0 < xs.length)).elim (fun hne => ?_) (fun hne => ?_)
    · -- hne True
     refine c_fact (p := ∃ ad, ax = some ad) (rds_some (e := e_Row) (xs := xs) (rds_own e_Row_ok 4 rfl) (by intro h0; rw [h0] at hne; simp at hne)) ?_
     rintro ⟨adx, eadx⟩
     refine c_quiet (by kernel_rfl) (by kernel_rfl) ?_
     refine Qt.o_val rfl (v_move rfl rfl) ?_
     refine Qt.o_val rfl (v_bin rfl rfl rfl b_geq) ?_
     refine Qt.l_eq (t := 136) (v' := .bool true) rfl (show _ = Value.bool true from by rw [decide_eq_true (by omega)]) ?_
     refine Qt.o_val rfl (v_move rfl rfl) (Qt.o_yes rfl rfl rfl (Qt.o_val rfl (v_move rfl rfl) (Qt.o_yes rfl rfl rfl (Qt.o_val rfl (v_nil rfl rfl) (Qt.o_yes rfl rfl rfl ?_)))))
     refine Qt.o_val rfl (v_fieldAddr (q := ⟨m53, 1, none⟩) rfl rfl Try.underlying54 rfl ti43 rfl) ?_
     refine Qt.o_yes rfl rfl rfl ?_
     refine Qt.o_val rfl (v_load1 rfl rfl Try.underlying43 rfl (rd_mem 3 rfl rfl)) ?_
     refine Qt.o_yes rfl rfl rfl (Qt.o_val rfl (v_move rfl rfl) (Qt.o_yes rfl rfl rfl ?_))
     refine Qt.o_val rfl (v_indexK e_Row_ok eadx rfl rfl rfl Try.underlying43 (by omega) (by omega)) ?_
     obtain ⟨x143, hx143⟩ : ∃ x, (xs)[(((xs).length : Int) - 1).toNat]? = some x := ⟨_, List.getElem?_eq_getElem (by omega)⟩
     refine Qt.o_yes rfl rfl rfl ?_
     refine Qt.o_val rfl (v_fieldAddr rfl rfl Try.underlying49 rfl ti9 (Addr.add_add' _ _ _)) ?_
     refine Qt.o_yes rfl rfl rfl ?_
     refine Qt.o_val rfl (v_load1 rfl rfl Try.underlying9 rfl (rd_sl e_Row_ok eadx (rds_own e_Row_ok 4 rfl) hx143 rfl)) ?_
     refine Qt.o_yes rfl rfl rfl (Qt.o_val rfl (v_move rfl rfl) (Qt.o_yes rfl rfl rfl ?_))
     refine Qt.o_val rfl (v_bytesStr (e := e8) rfl rfl rfl Try.underlying23 Try.underlying5 Try.underlying9 (rds_own e8_ok 2 rfl)) ?_
     refine Qt.o_yes rfl rfl rfl ?_
     refine Qt.o_val rfl (v_bin rfl rfl rfl b_sgeq) ?_
     refine Qt.l_eq (t := 148) (v' := .bool false) rfl (show _ = Value.bool false from by rw [show slt x143.f_key (bts out60) = true from hkP x143 (List.mem_of_getElem? hx143)]; rfl) ?_
     refine Qt.o_val rfl (v_pick_true rfl rfl rfl) ?_
     refine Qt.l_nil ?_
     refine q_then (c_false rfl (c_skip (q_then (cP p4 (cP p4 (cP p5 (cP p5 (cP p5 (cP p5 ?_)))))))))
     refine cP p3 (cP p3 (cP p3 (cP p3 (cP p5 (cP p5 ?_)))))
     refine c_heldF [blk m53 (.cells #[.int .i64 n, .slice ax (xs).length cx] 54 (0, 0)), row e_Row.T e_Row.sz ax (xs).length cx (flat e_Row xs)] (blk ke (.cells #[.slice a (bs).length c, .int .i64 (i80 : Int)] 92 (0, 0)) :: row e8.T e8.sz a70 (out70).length c70 (flat e8 out70) :: row e8.T e8.sz a60 (out60).length c60 (flat e8 out60) :: vals xs :: F) (by kernel_rfl) ?_
     refine h_take 0 rfl rfl (by kernel_rfl) (by kernel_rfl) (by kernel_rfl) (fun L0 => v_move rfl rfl) ?_
     refine h_take 1 rfl rfl (by kernel_rfl) (by kernel_rfl) (by kernel_rfl) (fun L0 => v_move rfl rfl) ?_
     refine h_take 2 rfl rfl (by kernel_rfl) (by kernel_rfl) (by kernel_rfl) (fun L0 => v_nil rfl rfl) ?_
     refine h_take 3 rfl rfl (by kernel_rfl) (by kernel_rfl) (by kernel_rfl) (fun L0 => v_fieldAddr (q := ⟨m53, 1, none⟩) rfl rfl Try.underlying54 rfl ti43 rfl) ?_
     refine h_take 5 rfl rfl (by kernel_rfl) (by kernel_rfl) (by kernel_rfl) (fun L0 => v_move rfl rfl) ?_
     refine h_take 6 rfl rfl (by kernel_rfl) (by kernel_rfl) (by kernel_rfl) (fun L0 => v_bytesStr (e := e8) rfl rfl rfl Try.underlying23 Try.underlying5 Try.underlying9 (rds_own e8_ok 2 rfl)) ?_
     refine h_take 7 rfl rfl (by kernel_rfl) (by kernel_rfl) (by kernel_rfl) (fun L0 => v_move rfl rfl) ?_
     refine h_take 8 rfl rfl (by kernel_rfl) (by kernel_rfl) (by kernel_rfl) (fun L0 => v_bin rfl rfl rfl b_eql) ?_
     refine h_take 9 rfl rfl (by kernel_rfl) (by kernel_rfl) (by kernel_rfl) (fun L0 => v_move rfl rfl) ?_
     refine h_take 10 rfl rfl (by kernel_rfl) (by kernel_rfl) (by kernel_rfl) (fun L0 => v_move rfl rfl) ?_
     refine h_take 11 rfl rfl (by kernel_rfl) (by kernel_rfl) (by kernel_rfl) (fun L0 => v_int rfl rfl Try.underlying34 Try.underlying3 (wrap_i64 (by omega) (by omega))) ?_
     refine h_take 12 rfl rfl (by kernel_rfl) (by kernel_rfl) (by kernel_rfl) (fun L0 => v_move rfl rfl) ?_
     refine h_take 13 rfl rfl (by kernel_rfl) (by kernel_rfl) (by kernel_rfl) (fun L0 => v_build rfl sp36 ti36 rfl ((fill_cons (cells' := [.bool (decide (((byteR ys60).1.toNat : Int) = 1)), .slice none 0 0, .int .i64 0, .int .u64 0]) rfl rfl rfl rfl (fill_cons (cells' := [.bool (decide (((byteR ys60).1.toNat : Int) = 1)), .slice a70 (out70).length c70, .int .i64 0, .int .u64 0]) rfl rfl rfl rfl (fill_cons (cells' := [.bool (decide (((byteR ys60).1.toNat : Int) = 1)), .slice a70 (out70).length c70, .int .i64 ((numR 0 0 ys70).1 : Int), .int .u64 0]) rfl rfl rfl rfl (fill_cons (cells' := [.bool (decide (((byteR ys60).1.toNat : Int) = 1)), .slice a70 (out70).length c70, .int .i64 ((numR 0 0 ys70).1 : Int), .int .u64 ((numR 0 0 ys75).1 : Int)]) rfl rfl rfl rfl fill_nil)))))) ?_
     refine h_take 14 rfl rfl (by kernel_rfl) (by kernel_rfl) (by kernel_rfl) (fun L0 => v_build rfl sp49 ti49 rfl ((fill_cons (cells' := [.string (bts out60), .bool false, .slice none 0 0, .int .i64 0, .int .u64 0]) rfl rfl rfl rfl (fill_cons (cells' := [.string (bts out60), .bool (decide (((byteR ys60).1.toNat : Int) = 1)), .slice a70 (out70).length c70, .int .i64 ((numR 0 0 ys70).1 : Int), .int .u64 ((numR 0 0 ys75).1 : Int)]) rfl rfl rfl rfl fill_nil)))) ?_
     refine h_many (is := [4, 15]) (by kernel_rfl) (by decide) (forall_cons ⟨_, rfl, ?_⟩ (forall_cons ⟨_, rfl, ?_⟩ forall_nil))
     · -- 4 comes first
      refine l_in2 ?_
      refine o_load1 rfl rfl Try.underlying43 rfl (rd_mem 0 rfl rfl) ?_
      refine l_nil (q_out2 (h_next ?_))
      refine h_one 15 rfl (by kernel_rfl) ?_
      refine l_in2 ?_
      refine o_lit e_Row_ok rfl Try.underlying43 rfl rfl rfl (lit_ok rfl) [(⟨bts out60, ⟨decide (((byteR ys60).1.toNat : Int) = 1), ⟨a70, out70, c70⟩, ((numR 0 0 ys70).1 : Int), ((numR 0 0 ys75).1 : Int)⟩⟩ : ItA)] rfl rfl fun a165 => ?_
      refine l_nil (q_out3 (h_next ?_))
      refine h_one 16 rfl (by kernel_rfl) ?_
      refine l_in3 (l_f2 ?_)
      refine o_append e_Row_ok rfl rfl rfl Try.underlying43 (rds_own e_Row_ok 1 rfl) (by show (_ + _) * 64 ≤ _; (try simp only [List.length_append, List.length_cons, List.length_nil]); omega) (by (try simp only [List.length_append, List.length_cons, List.length_nil]); omega) fun a166 c166 => ?_
      refine l_f1 ?_
      refine l_drop ?_
      refine l_nil (q_out2 (h_next ?_))
      refine h_take 17 rfl rfl (by kernel_rfl) (by kernel_rfl) (by kernel_rfl) (fun L0 => v_nil rfl rfl) ?_
      refine h_take 18 rfl rfl (by kernel_rfl) (by kernel_rfl) (by kernel_rfl) (fun L0 => v_fieldAddr (q := ⟨m53, 1, none⟩) rfl rfl Try.underlying54 rfl ti43 rfl) ?_
      refine h_one 19 rfl (by kernel_rfl) ?_
      refine l_in2 (l_f1 ?_)
      refine o_store1 rfl rfl rfl ti43 rfl rfl ?_
      refine l_nil (q_out2 (h_next ?_))
      refine h_done (by kernel_rfl) ?_
      refine q_in2 (q_block (q_then (c_region (o_move rfl rfl ?_))))
      refine o_bin rfl rfl rfl (b_sub (show IntKind.u64.wrap ((m : Int) - 1) = ((m - 1 : Nat) : Int) from by rw [wrap_u64 (by omega) (by omega)]; omega)) ?_
      refine o_assign rfl rfl (l_nil ?_)
      have hxP : proj (⟨bts out60, ⟨decide (((byteR ys60).1.toNat : Int) = 1), ⟨a70, out70, c70⟩, ((numR 0 0 ys70).1 : Int), ((numR 0 0 ys75).1 : Int)⟩⟩ : ItA) = rowP yse := by unfold rowP rdKey rdVal rdCnt rdHas; rw [e3, ← f60, ← f65, ← f75, ← u8dec, ← hout60, ← hout70]; rfl
      refine qP p4 (qP p3 (qP p3 (qP p3 (qP p5 (qP p5 ?_)))))
      refine q_conv (L' := vals (xs ++ [(⟨bts out60, ⟨decide (((byteR ys60).1.toNat : Int) = 1), ⟨a70, out70, c70⟩, ((numR 0 0 ys70).1 : Int), ((numR 0 0 ys75).1 : Int)⟩⟩ : ItA)]) :: _) (fun w S => Sat.vals_app (x := (⟨bts out60, ⟨decide (((byteR ys60).1.toNat : Int) = 1), ⟨a70, out70, c70⟩, ((numR 0 0 ys70).1 : Int), ((numR 0 0 ys75).1 : Int)⟩⟩ : ItA)) S) ?_
      refine qP p4 (qT (qP p3 (qP p1 (qP p3 (qP p3 ?_)))))
      exact q_round (m - 1, i80, ys80, xs ++ [(⟨bts out60, ⟨decide (((byteR ys60).1.toNat : Int) = 1), ⟨a70, out70, c70⟩, ((numR 0 0 ys70).1 : Int), ((numR 0 0 ys75).1 : Int)⟩⟩ : ItA)], a166, c166) (by exact ⟨by dsimp only; omega, he80, q7 _ _ hxP f80⟩) (by (try dsimp only); omega) ⟨vr, vr, vr, vr, trivial⟩ (fun w S => S)
     · -- 15 comes first
      refine l_in2 ?_
      refine o_lit e_Row_ok rfl Try.underlying43 rfl rfl rfl (lit_ok rfl) [(⟨bts out60, ⟨decide (((byteR ys60).1.toNat : Int) = 1), ⟨a70, out70, c70⟩, ((numR 0 0 ys70).1 : Int), ((numR 0 0 ys75).1 : Int)⟩⟩ : ItA)] rfl rfl fun a165 => ?_
      refine l_nil (q_out3 (h_next ?_))
      refine h_one 4 rfl (by kernel_rfl) ?_
      refine l_in3 ?_
      refine o_load1 rfl rfl Try.underlying43 rfl (rd_mem 1 rfl rfl) ?_
      refine l_nil (q_out3 (h_next ?_))
      refine h_one 16 rfl (by kernel_rfl) ?_
      refine l_in3 (l_f2 ?_)
      refine o_append e_Row_ok rfl rfl rfl Try.underlying43 (rds_own e_Row_ok 1 rfl) (by show (_ + _) * 64 ≤ _; (try simp only [List.length_append, List.length_cons, List.length_nil]); omega) (by (try simp only [List.length_append, List.length_cons, List.length_nil]); omega) fun a166 c166 => ?_
      refine l_f1 ?_
      refine l_drop ?_
      refine l_nil (q_out2 (h_next ?_))
      refine h_take 17 rfl rfl (by kernel_rfl) (by kernel_rfl) (by kernel_rfl) (fun L0 => v_nil rfl rfl) ?_
      refine h_take 18 rfl rfl (by kernel_rfl) (by kernel_rfl) (by kernel_rfl) (fun L0 => v_fieldAddr (q := ⟨m53, 1, none⟩) rfl rfl Try.underlying54 rfl ti43 rfl) ?_
      refine h_one 19 rfl (by kernel_rfl) ?_
      refine l_in2 (l_f1 ?_)
      refine o_store1 rfl rfl rfl ti43 rfl rfl ?_
      refine l_nil (q_out2 (h_next ?_))
      refine h_done (by kernel_rfl) ?_
      refine q_in2 (q_block (q_then (c_region (o_move rfl rfl ?_))))
      refine o_bin rfl rfl rfl (b_sub (show IntKind.u64.wrap ((m : Int) - 1) = ((m - 1 : Nat) : Int) from by rw [wrap_u64 (by omega) (by omega)]; omega)) ?_
      refine o_assign rfl rfl (l_nil ?_)
      have hxP : proj (⟨bts out60, ⟨decide (((byteR ys60).1.toNat : Int) = 1), ⟨a70, out70, c70⟩, ((numR 0 0 ys70).1 : Int), ((numR 0 0 ys75).1 : Int)⟩⟩ : ItA) = rowP yse := by unfold rowP rdKey rdVal rdCnt rdHas; rw [e3, ← f60, ← f65, ← f75, ← u8dec, ← hout60, ← hout70]; rfl
      refine qP p4 (qP p3 (qP p3 (qP p3 (qP p5 (qP p5 ?_)))))
      refine q_conv (L' := vals (xs ++ [(⟨bts out60, ⟨decide (((byteR ys60).1.toNat : Int) = 1), ⟨a70, out70, c70⟩, ((numR 0 0 ys70).1 : Int), ((numR 0 0 ys75).1 : Int)⟩⟩ : ItA)]) :: _) (fun w S => Sat.vals_app (x := (⟨bts out60, ⟨decide (((byteR ys60).1.toNat : Int) = 1), ⟨a70, out70, c70⟩, ((numR 0 0 ys70).1 : Int), ((numR 0 0 ys75).1 : Int)⟩⟩ : ItA)) S) ?_
      refine qP p4 (qT (qP p3 (qP p1 (qP p3 (qP p3 ?_)))))
      exact q_round (m - 1, i80, ys80, xs ++ [(⟨bts out60, ⟨decide (((byteR ys60).1.toNat : Int) = 1), ⟨a70, out70, c70⟩, ((numR 0 0 ys70).1 : Int), ((numR 0 0 ys75).1 : Int)⟩⟩ : ItA)], a166, c166) (by exact ⟨by dsimp only; omega, he80, q7 _ _ hxP f80⟩) (by (try dsimp only); omega) ⟨vr, vr, vr, vr, trivial⟩ (fun w S => S)
    · -- hne False
     refine c_quiet (by kernel_rfl) (by kernel_rfl) ?_
     refine Qt.o_val rfl (v_move rfl rfl) ?_
     refine Qt.o_val rfl (v_bin rfl rfl rfl b_geq) ?_
     refine Qt.l_eq (t := 136) (v' := .bool false) rfl (show _ = Value.bool false from by rw [decide_eq_false (by omega)]) ?_
     refine Qt.o_val rfl (v_move rfl rfl) ?_
     refine Qt.o_no rfl rfl rfl rfl ?_
     refine Qt.o_no rfl rfl rfl rfl ?_
     refine Qt.o_no rfl rfl rfl rfl ?_
     refine Qt.o_no rfl rfl rfl rfl ?_
     refine Qt.o_no rfl rfl rfl rfl ?_
     refine Qt.o_no rfl rfl rfl rfl ?_
     refine Qt.o_no rfl rfl rfl rfl ?_
     refine Qt.o_no rfl rfl rfl rfl ?_
     refine Qt.o_no rfl rfl rfl rfl ?_
     refine Qt.o_no rfl rfl rfl rfl ?_
     refine Qt.o_no rfl rfl rfl rfl ?_
     refine Qt.o_val rfl (v_pick_false rfl rfl rfl) ?_
     refine Qt.l_nil ?_
     refine q_then (c_false rfl (c_skip (q_then (cP p4 (cP p4 (cP p5 (cP p5 (cP p5 (cP p5 ?_)))))))))
     refine cP p3 (cP p3 (cP p3 (cP p3 (cP p5 (cP p5 ?_)))))
     refine c_heldF [blk m53 (.cells #[.int .i64 n, .slice ax (xs).length cx] 54 (0, 0)), row e_Row.T e_Row.sz ax (xs).length cx (flat e_Row xs)] (blk ke (.cells #[.slice a (bs).length c, .int .i64 (i80 : Int)] 92 (0, 0)) :: row e8.T e8.sz a70 (out70).length c70 (flat e8 out70) :: row e8.T e8.sz a60 (out60).length c60 (flat e8 out60) :: vals xs :: F) (by kernel_rfl) ?_
     refine h_take 0 rfl rfl (by kernel_rfl) (by kernel_rfl) (by kernel_rfl) (fun L0 => v_move rfl rfl) ?_
     refine h_take 1 rfl rfl (by kernel_rfl) (by kernel_rfl) (by kernel_rfl) (fun L0 => v_move rfl rfl) ?_
     refine h_take 2 rfl rfl (by kernel_rfl) (by kernel_rfl) (by kernel_rfl) (fun L0 => v_nil rfl rfl) ?_
     refine h_take 3 rfl rfl (by kernel_rfl) (by kernel_rfl) (by kernel_rfl) (fun L0 => v_fieldAddr (q := ⟨m53, 1, none⟩) rfl rfl Try.underlying54 rfl ti43 rfl) ?_
     refine h_take 5 rfl rfl (by kernel_rfl) (by kernel_rfl) (by kernel_rfl) (fun L0 => v_move rfl rfl) ?_
     refine h_take 6 rfl rfl (by kernel_rfl) (by kernel_rfl) (by kernel_rfl) (fun L0 => v_bytesStr (e := e8) rfl rfl rfl Try.underlying23 Try.underlying5 Try.underlying9 (rds_own e8_ok 2 rfl)) ?_
     refine h_take 7 rfl rfl (by kernel_rfl) (by kernel_rfl) (by kernel_rfl) (fun L0 => v_move rfl rfl) ?_
     refine h_take 8 rfl rfl (by kernel_rfl) (by kernel_rfl) (by kernel_rfl) (fun L0 => v_bin rfl rfl rfl b_eql) ?_
     refine h_take 9 rfl rfl (by kernel_rfl) (by kernel_rfl) (by kernel_rfl) (fun L0 => v_move rfl rfl) ?_
     refine h_take 10 rfl rfl (by kernel_rfl) (by kernel_rfl) (by kernel_rfl) (fun L0 => v_move rfl rfl) ?_
     refine h_take 11 rfl rfl (by kernel_rfl) (by kernel_rfl) (by kernel_rfl) (fun L0 => v_int rfl rfl Try.underlying34 Try.underlying3 (wrap_i64 (by omega) (by omega))) ?_
     refine h_take 12 rfl rfl (by kernel_rfl) (by kernel_rfl) (by kernel_rfl) (fun L0 => v_move rfl rfl) ?_
     refine h_take 13 rfl rfl (by kernel_rfl) (by kernel_rfl) (by kernel_rfl) (fun L0 => v_build rfl sp36 ti36 rfl ((fill_cons (cells' := [.bool (decide (((byteR ys60).1.toNat : Int) = 1)), .slice none 0 0, .int .i64 0, .int .u64 0]) rfl rfl rfl rfl (fill_cons (cells' := [.bool (decide (((byteR ys60).1.toNat : Int) = 1)), .slice a70 (out70).length c70, .int .i64 0, .int .u64 0]) rfl rfl rfl rfl (fill_cons (cells' := [.bool (decide (((byteR ys60).1.toNat : Int) = 1)), .slice a70 (out70).length c70, .int .i64 ((numR 0 0 ys70).1 : Int), .int .u64 0]) rfl rfl rfl rfl (fill_cons (cells' := [.bool (decide (((byteR ys60).1.toNat : Int) = 1)), .slice a70 (out70).length c70, .int .i64 ((numR 0 0 ys70).1 : Int), .int .u64 ((numR 0 0 ys75).1 : Int)]) rfl rfl rfl rfl fill_nil)))))) ?_
     refine h_take 14 rfl rfl (by kernel_rfl) (by kernel_rfl) (by kernel_rfl) (fun L0 => v_build rfl sp49 ti49 rfl ((fill_cons (cells' := [.string (bts out60), .bool false, .slice none 0 0, .int .i64 0, .int .u64 0]) rfl rfl rfl rfl (fill_cons (cells' := [.string (bts out60), .bool (decide (((byteR ys60).1.toNat : Int) = 1)), .slice a70 (out70).length c70, .int .i64 ((numR 0 0 ys70).1 : Int), .int .u64 ((numR 0 0 ys75).1 : Int)]) rfl rfl rfl rfl fill_nil)))) ?_
     refine h_many (is := [4, 15]) (by kernel_rfl) (by decide) (forall_cons ⟨_, rfl, ?_⟩ (forall_cons ⟨_, rfl, ?_⟩ forall_nil))
     · -- 4 comes first
      refine l_in2 ?_
      refine o_load1 rfl rfl Try.underlying43 rfl (rd_mem 0 rfl rfl) ?_
      refine l_nil (q_out2 (h_next ?_))
      refine h_one 15 rfl (by kernel_rfl) ?_
      refine l_in2 ?_
      refine o_lit e_Row_ok rfl Try.underlying43 rfl rfl rfl (lit_ok rfl) [(⟨bts out60, ⟨decide (((byteR ys60).1.toNat : Int) = 1), ⟨a70, out70, c70⟩, ((numR 0 0 ys70).1 : Int), ((numR 0 0 ys75).1 : Int)⟩⟩ : ItA)] rfl rfl fun a165 => ?_
      refine l_nil (q_out3 (h_next ?_))
      refine h_one 16 rfl (by kernel_rfl) ?_
      refine l_in3 (l_f2 ?_)
      refine o_append e_Row_ok rfl rfl rfl Try.underlying43 (rds_own e_Row_ok 1 rfl) (by show (_ + _) * 64 ≤ _; (try simp only [List.length_append, List.length_cons, List.length_nil]); omega) (by (try simp only [List.length_append, List.length_cons, List.length_nil]); omega) fun a166 c166 => ?_
      refine l_f1 ?_
      refine l_drop ?_
      refine l_nil (q_out2 (h_next ?_))
      refine h_take 17 rfl rfl (by kernel_rfl) (by kernel_rfl) (by kernel_rfl) (fun L0 => v_nil rfl rfl) ?_
      refine h_take 18 rfl rfl (by kernel_rfl) (by kernel_rfl) (by kernel_rfl) (fun L0 => v_fieldAddr (q := ⟨m53, 1, none⟩) rfl rfl Try.underlying54 rfl ti43 rfl) ?_
      refine h_one 19 rfl (by kernel_rfl) ?_
      refine l_in2 (l_f1 ?_)
      refine o_store1 rfl rfl rfl ti43 rfl rfl ?_
      refine l_nil (q_out2 (h_next ?_))
      refine h_done (by kernel_rfl) ?_
      refine q_in2 (q_block (q_then (c_region (o_move rfl rfl ?_))))
      refine o_bin rfl rfl rfl (b_sub (show IntKind.u64.wrap ((m : Int) - 1) = ((m - 1 : Nat) : Int) from by rw [wrap_u64 (by omega) (by omega)]; omega)) ?_
      refine o_assign rfl rfl (l_nil ?_)
      have hxP : proj (⟨bts out60, ⟨decide (((byteR ys60).1.toNat : Int) = 1), ⟨a70, out70, c70⟩, ((numR 0 0 ys70).1 : Int), ((numR 0 0 ys75).1 : Int)⟩⟩ : ItA) = rowP yse := by unfold rowP rdKey rdVal rdCnt rdHas; rw [e3, ← f60, ← f65, ← f75, ← u8dec, ← hout60, ← hout70]; rfl
      refine qP p4 (qP p3 (qP p3 (qP p3 (qP p5 (qP p5 ?_)))))
      refine q_conv (L' := vals (xs ++ [(⟨bts out60, ⟨decide (((byteR ys60).1.toNat : Int) = 1), ⟨a70, out70, c70⟩, ((numR 0 0 ys70).1 : Int), ((numR 0 0 ys75).1 : Int)⟩⟩ : ItA)]) :: _) (fun w S => Sat.vals_app (x := (⟨bts out60, ⟨decide (((byteR ys60).1.toNat : Int) = 1), ⟨a70, out70, c70⟩, ((numR 0 0 ys70).1 : Int), ((numR 0 0 ys75).1 : Int)⟩⟩ : ItA)) S) ?_
      refine qP p4 (qT (qP p3 (qP p1 (qP p3 (qP p3 ?_)))))
      exact q_round (m - 1, i80, ys80, xs ++ [(⟨bts out60, ⟨decide (((byteR ys60).1.toNat : Int) = 1), ⟨a70, out70, c70⟩, ((numR 0 0 ys70).1 : Int), ((numR 0 0 ys75).1 : Int)⟩⟩ : ItA)], a166, c166) (by exact ⟨by dsimp only; omega, he80, q7 _ _ hxP f80⟩) (by (try dsimp only); omega) ⟨vr, vr, vr, vr, trivial⟩ (fun w S => S)
     · -- 15 comes first
      refine l_in2 ?_
      refine o_lit e_Row_ok rfl Try.underlying43 rfl rfl rfl (lit_ok rfl) [(⟨bts out60, ⟨decide (((byteR ys60).1.toNat : Int) = 1), ⟨a70, out70, c70⟩, ((numR 0 0 ys70).1 : Int), ((numR 0 0 ys75).1 : Int)⟩⟩ : ItA)] rfl rfl fun a165 => ?_
      refine l_nil (q_out3 (h_next ?_))
      refine h_one 4 rfl (by kernel_rfl) ?_
      refine l_in3 ?_
      refine o_load1 rfl rfl Try.underlying43 rfl (rd_mem 1 rfl rfl) ?_
      refine l_nil (q_out3 (h_next ?_))
      refine h_one 16 rfl (by kernel_rfl) ?_
      refine l_in3 (l_f2 ?_)
      refine o_append e_Row_ok rfl rfl rfl Try.underlying43 (rds_own e_Row_ok 1 rfl) (by show (_ + _) * 64 ≤ _; (try simp only [List.length_append, List.length_cons, List.length_nil]); omega) (by (try simp only [List.length_append, List.length_cons, List.length_nil]); omega) fun a166 c166 => ?_
      refine l_f1 ?_
      refine l_drop ?_
      refine l_nil (q_out2 (h_next ?_))
      refine h_take 17 rfl rfl (by kernel_rfl) (by kernel_rfl) (by kernel_rfl) (fun L0 => v_nil rfl rfl) ?_
      refine h_take 18 rfl rfl (by kernel_rfl) (by kernel_rfl) (by kernel_rfl) (fun L0 => v_fieldAddr (q := ⟨m53, 1, none⟩) rfl rfl Try.underlying54 rfl ti43 rfl) ?_
      refine h_one 19 rfl (by kernel_rfl) ?_
      refine l_in2 (l_f1 ?_)
      refine o_store1 rfl rfl rfl ti43 rfl rfl ?_
      refine l_nil (q_out2 (h_next ?_))
      refine h_done (by kernel_rfl) ?_
      refine q_in2 (q_block (q_then (c_region (o_move rfl rfl ?_))))
      refine o_bin rfl rfl rfl (b_sub (show IntKind.u64.wrap ((m : Int) - 1) = ((m - 1 : Nat) : Int) from by rw [wrap_u64 (by omega) (by omega)]; omega)) ?_
      refine o_assign rfl rfl (l_nil ?_)
      have hxP : proj (⟨bts out60, ⟨decide (((byteR ys60).1.toNat : Int) = 1), ⟨a70, out70, c70⟩, ((numR 0 0 ys70).1 : Int), ((numR 0 0 ys75).1 : Int)⟩⟩ : ItA) = rowP yse := by unfold rowP rdKey rdVal rdCnt rdHas; rw [e3, ← f60, ← f65, ← f75, ← u8dec, ← hout60, ← hout70]; rfl
      refine qP p4 (qP p3 (qP p3 (qP p3 (qP p5 (qP p5 ?_)))))
      refine q_conv (L' := vals (xs ++ [(⟨bts out60, ⟨decide (((byteR ys60).1.toNat : Int) = 1), ⟨a70, out70, c70⟩, ((numR 0 0 ys70).1 : Int), ((numR 0 0 ys75).1 : Int)⟩⟩ : ItA)]) :: _) (fun w S => Sat.vals_app (x := (⟨bts out60, ⟨decide (((byteR ys60).1.toNat : Int) = 1), ⟨a70, out70, c70⟩, ((numR 0 0 ys70).1 : Int), ((numR 0 0 ys75).1 : Int)⟩⟩ : ItA)) S) ?_
      refine qP p4 (qT (qP p3 (qP p1 (qP p3 (qP p3 ?_)))))
      exact q_round (m - 1, i80, ys80, xs ++ [(⟨bts out60, ⟨decide (((byteR ys60).1.toNat : Int) = 1), ⟨a70, out70, c70⟩, ((numR 0 0 ys70).1 : Int), ((numR 0 0 ys75).1 : Int)⟩⟩ : ItA)], a166, c166) (by exact ⟨by dsimp only; omega, he80, q7 _ _ hxP f80⟩) (by (try dsimp only); omega) ⟨vr, vr, vr, vr, trivial⟩ (fun w S => S)
   · -- h4F
    have h4b := h4
    try simp only [decide_eq_false_iff_not, Int.not_lt, Int.not_le] at h4
    refine o_no rfl rfl rfl rfl (o_no rfl rfl rfl rfl (o_no rfl rfl rfl rfl (o_no rfl rfl rfl rfl (o_no rfl rfl rfl rfl (o_no rfl rfl rfl rfl (o_no rfl rfl rfl rfl (o_yes rfl rfl rfl (o_pick_false rfl rfl rfl (o_pick_false rfl rfl rfl ?_)))))))))
    refine l_nil (q_then (c_false rfl (c_skip (q_then (c_seq ?_)))))
    have hxl := hdr.len
    have hh3 : (numR 0 0 ys70).1 < 3 := by omega
    have e3 : rdHome yse % 3 = (numR 0 0 ys70).1 := by rw [f70]; exact Nat.mod_eq_of_lt (by show (numR 0 0 (y3 yse)).1 < 3; rw [← f70]; exact hh3)
    refine c_region (o_move rfl rfl (o_nil rfl rfl ?_))
    refine o_fieldAddr (q := ⟨m53, 1, none⟩) rfl rfl Try.underlying54 rfl ti43 rfl ?_
    refine o_load1 rfl rfl Try.underlying43 rfl (rd_mem 3 rfl rfl) ?_
    refine o_len rfl rfl Try.underlying43 ?_
    refine o_bin rfl rfl rfl (b_sub (wrap_i64 (by omega) (by omega))) ?_
    refine o_assign rfl rfl (l_nil (q_then (c_seq (c_seq ?_))))
    refine (Classical.em (0 < xs.length)).elim (fun hne => ?_) (fun hne => ?_)
    · -- hne True
     refine c_fact (p := ∃ ad, ax = some ad) (rds_some (e := e_Row) (xs := xs) (rds_own e_Row_ok 4 rfl) (by intro h0; rw [h0] at hne; simp at hne)) ?_
     rintro ⟨adx, eadx⟩
     refine c_quiet (by kernel_rfl) (by kernel_rfl) ?_
     refine Qt.o_val rfl (v_move rfl rfl) ?_
     refine Qt.o_val rfl (v_bin rfl rfl rfl b_geq) ?_
     refine Qt.l_eq (t := 136) (v' := .bool true) rfl (show _ = Value.bool true from by rw [decide_eq_true (by omega)]) ?_
     refine Qt.o_val rfl (v_move rfl rfl) (Qt.o_yes rfl rfl rfl (Qt.o_val rfl (v_move rfl rfl) (Qt.o_yes rfl rfl rfl (Qt.o_val rfl (v_nil rfl rfl) (Qt.o_yes rfl rfl rfl ?_)))))
     refine Qt.o_val rfl (v_fieldAddr (q := ⟨m53, 1, none⟩) rfl rfl Try.underlying54 rfl ti43 rfl) ?_
     refine Qt.o_yes rfl rfl rfl ?_
     refine Qt.o_val rfl (v_load1 rfl rfl Try.underlying43 rfl (rd_mem 3 rfl rfl)) ?_
     refine Qt.o_yes rfl rfl rfl (Qt.o_val rfl (v_move rfl rfl) (Qt.o_yes rfl rfl rfl ?_))
     refine Qt.o_val rfl (v_indexK e_Row_ok eadx rfl rfl rfl Try.underlying43 (by omega) (by omega)) ?_
     obtain ⟨x143, hx143⟩ : ∃ x, (xs)[(((xs).length : Int) - 1).toNat]? = some x := ⟨_, List.getElem?_eq_getElem (by omega)⟩
     refine Qt.o_yes rfl rfl rfl ?_
     refine Qt.o_val rfl (v_fieldAddr rfl rfl Try.underlying49 rfl ti9 (Addr.add_add' _ _ _)) ?_
     refine Qt.o_yes rfl rfl rfl ?_
     refine Qt.o_val rfl (v_load1 rfl rfl Try.underlying9 rfl (rd_sl e_Row_ok eadx (rds_own e_Row_ok 4 rfl) hx143 rfl)) ?_
     refine Qt.o_yes rfl rfl rfl (Qt.o_val rfl (v_move rfl rfl) (Qt.o_yes rfl rfl rfl ?_))
     refine Qt.o_val rfl (v_bytesStr (e := e8) rfl rfl rfl Try.underlying23 Try.underlying5 Try.underlying9 (rds_own e8_ok 2 rfl)) ?_
     refine Qt.o_yes rfl rfl rfl ?_
     refine Qt.o_val rfl (v_bin rfl rfl rfl b_sgeq) ?_
     refine Qt.l_eq (t := 148) (v' := .bool false) rfl (show _ = Value.bool false from by rw [show slt x143.f_key (bts out60) = true from hkP x143 (List.mem_of_getElem? hx143)]; rfl) ?_
     refine Qt.o_val rfl (v_pick_true rfl rfl rfl) ?_
     refine Qt.l_nil ?_
     refine q_then (c_false rfl (c_skip (q_then (cP p4 (cP p4 (cP p5 (cP p5 (cP p5 (cP p5 ?_)))))))))
     refine cP p3 (cP p3 (cP p3 (cP p3 (cP p5 (cP p5 ?_)))))
     refine c_heldF [blk m53 (.cells #[.int .i64 n, .slice ax (xs).length cx] 54 (0, 0)), row e_Row.T e_Row.sz ax (xs).length cx (flat e_Row xs)] (blk ke (.cells #[.slice a (bs).length c, .int .i64 (i80 : Int)] 92 (0, 0)) :: row e8.T e8.sz a70 (out70).length c70 (flat e8 out70) :: row e8.T e8.sz a60 (out60).length c60 (flat e8 out60) :: vals xs :: F) (by kernel_rfl) ?_
     refine h_take 0 rfl rfl (by kernel_rfl) (by kernel_rfl) (by kernel_rfl) (fun L0 => v_move rfl rfl) ?_
     refine h_take 1 rfl rfl (by kernel_rfl) (by kernel_rfl) (by kernel_rfl) (fun L0 => v_move rfl rfl) ?_
     refine h_take 2 rfl rfl (by kernel_rfl) (by kernel_rfl) (by kernel_rfl) (fun L0 => v_nil rfl rfl) ?_
     refine h_take 3 rfl rfl (by kernel_rfl) (by kernel_rfl) (by kernel_rfl) (fun L0 => v_fieldAddr (q := ⟨m53, 1, none⟩) rfl rfl Try.underlying54 rfl ti43 rfl) ?_
     refine h_take 5 rfl rfl (by kernel_rfl) (by kernel_rfl) (by kernel_rfl) (fun L0 => v_move rfl rfl) ?_
     refine h_take 6 rfl rfl (by kernel_rfl) (by kernel_rfl) (by kernel_rfl) (fun L0 => v_bytesStr (e := e8) rfl rfl rfl Try.underlying23 Try.underlying5 Try.underlying9 (rds_own e8_ok 2 rfl)) ?_
     refine h_take 7 rfl rfl (by kernel_rfl) (by kernel_rfl) (by kernel_rfl) (fun L0 => v_move rfl rfl) ?_
     refine h_take 8 rfl rfl (by kernel_rfl) (by kernel_rfl) (by kernel_rfl) (fun L0 => v_bin rfl rfl rfl b_eql) ?_
     refine h_take 9 rfl rfl (by kernel_rfl) (by kernel_rfl) (by kernel_rfl) (fun L0 => v_move rfl rfl) ?_
     refine h_take 10 rfl rfl (by kernel_rfl) (by kernel_rfl) (by kernel_rfl) (fun L0 => v_move rfl rfl) ?_
     refine h_take 11 rfl rfl (by kernel_rfl) (by kernel_rfl) (by kernel_rfl) (fun L0 => v_int rfl rfl Try.underlying34 Try.underlying3 (wrap_i64 (by omega) (by omega))) ?_
     refine h_take 12 rfl rfl (by kernel_rfl) (by kernel_rfl) (by kernel_rfl) (fun L0 => v_move rfl rfl) ?_
     refine h_take 13 rfl rfl (by kernel_rfl) (by kernel_rfl) (by kernel_rfl) (fun L0 => v_build rfl sp36 ti36 rfl ((fill_cons (cells' := [.bool (decide (((byteR ys60).1.toNat : Int) = 1)), .slice none 0 0, .int .i64 0, .int .u64 0]) rfl rfl rfl rfl (fill_cons (cells' := [.bool (decide (((byteR ys60).1.toNat : Int) = 1)), .slice a70 (out70).length c70, .int .i64 0, .int .u64 0]) rfl rfl rfl rfl (fill_cons (cells' := [.bool (decide (((byteR ys60).1.toNat : Int) = 1)), .slice a70 (out70).length c70, .int .i64 ((numR 0 0 ys70).1 : Int), .int .u64 0]) rfl rfl rfl rfl (fill_cons (cells' := [.bool (decide (((byteR ys60).1.toNat : Int) = 1)), .slice a70 (out70).length c70, .int .i64 ((numR 0 0 ys70).1 : Int), .int .u64 ((numR 0 0 ys75).1 : Int)]) rfl rfl rfl rfl fill_nil)))))) ?_
     refine h_take 14 rfl rfl (by kernel_rfl) (by kernel_rfl) (by kernel_rfl) (fun L0 => v_build rfl sp49 ti49 rfl ((fill_cons (cells' := [.string (bts out60), .bool false, .slice none 0 0, .int .i64 0, .int .u64 0]) rfl rfl rfl rfl (fill_cons (cells' := [.string (bts out60), .bool (decide (((byteR ys60).1.toNat : Int) = 1)), .slice a70 (out70).length c70, .int .i64 ((numR 0 0 ys70).1 : Int), .int .u64 ((numR 0 0 ys75).1 : Int)]) rfl rfl rfl rfl fill_nil)))) ?_
     refine h_many (is := [4, 15]) (by kernel_rfl) (by decide) (forall_cons ⟨_, rfl, ?_⟩ (forall_cons ⟨_, rfl, ?_⟩ forall_nil))
     · -- 4 comes first
      refine l_in2 ?_
      refine o_load1 rfl rfl Try.underlying43 rfl (rd_mem 0 rfl rfl) ?_
      refine l_nil (q_out2 (h_next ?_))
      refine h_one 15 rfl (by kernel_rfl) ?_
      refine l_in2 ?_
      refine o_lit e_Row_ok rfl Try.underlying43 rfl rfl rfl (lit_ok rfl) [(⟨bts out60, ⟨decide (((byteR ys60).1.toNat : Int) = 1), ⟨a70, out70, c70⟩, ((numR 0 0 ys70).1 : Int), ((numR 0 0 ys75).1 : Int)⟩⟩ : ItA)] rfl rfl fun a165 => ?_
      refine l_nil (q_out3 (h_next ?_))
      refine h_one 16 rfl (by kernel_rfl) ?_
      refine l_in3 (l_f2 ?_)
      refine o_append e_Row_ok rfl rfl rfl Try.underlying43 (rds_own e_Row_ok 1 rfl) (by show (_ + _) * 64 ≤ _; (try simp only [List.length_append, List.length_cons, List.length_nil]); omega) (by (try simp only [List.length_append, List.length_cons, List.length_nil]); omega) fun a166 c166 => ?_
      refine l_f1 ?_
      refine l_drop ?_
      refine l_nil (q_out2 (h_next ?_))
      refine h_take 17 rfl rfl (by kernel_rfl) (by kernel_rfl) (by kernel_rfl) (fun L0 => v_nil rfl rfl) ?_
      refine h_take 18 rfl rfl (by kernel_rfl) (by kernel_rfl) (by kernel_rfl) (fun L0 => v_fieldAddr (q := ⟨m53, 1, none⟩) rfl rfl Try.underlying54 rfl ti43 rfl) ?_
      refine h_one 19 rfl (by kernel_rfl) ?_
      refine l_in2 (l_f1 ?_)
      refine o_store1 rfl rfl rfl ti43 rfl rfl ?_
      refine l_nil (q_out2 (h_next ?_))
      refine h_done (by kernel_rfl) ?_
      refine q_in2 (q_block (q_then (c_region (o_move rfl rfl ?_))))
      refine o_bin rfl rfl rfl (b_sub (show IntKind.u64.wrap ((m : Int) - 1) = ((m - 1 : Nat) : Int) from by rw [wrap_u64 (by omega) (by omega)]; omega)) ?_
      refine o_assign rfl rfl (l_nil ?_)
      have hxP : proj (⟨bts out60, ⟨decide (((byteR ys60).1.toNat : Int) = 1), ⟨a70, out70, c70⟩, ((numR 0 0 ys70).1 : Int), ((numR 0 0 ys75).1 : Int)⟩⟩ : ItA) = rowP yse := by unfold rowP rdKey rdVal rdCnt rdHas; rw [e3, ← f60, ← f65, ← f75, ← u8dec, ← hout60, ← hout70]; rfl
      refine qP p4 (qP p3 (qP p3 (qP p3 (qP p5 (qP p5 ?_)))))
      refine q_conv (L' := vals (xs ++ [(⟨bts out60, ⟨decide (((byteR ys60).1.toNat : Int) = 1), ⟨a70, out70, c70⟩, ((numR 0 0 ys70).1 : Int), ((numR 0 0 ys75).1 : Int)⟩⟩ : ItA)]) :: _) (fun w S => Sat.vals_app (x := (⟨bts out60, ⟨decide (((byteR ys60).1.toNat : Int) = 1), ⟨a70, out70, c70⟩, ((numR 0 0 ys70).1 : Int), ((numR 0 0 ys75).1 : Int)⟩⟩ : ItA)) S) ?_
      refine qP p4 (qT (qP p3 (qP p1 (qP p3 (qP p3 ?_)))))
      exact q_round (m - 1, i80, ys80, xs ++ [(⟨bts out60, ⟨decide (((byteR ys60).1.toNat : Int) = 1), ⟨a70, out70, c70⟩, ((numR 0 0 ys70).1 : Int), ((numR 0 0 ys75).1 : Int)⟩⟩ : ItA)], a166, c166) (by exact ⟨by dsimp only; omega, he80, q7 _ _ hxP f80⟩) (by (try dsimp only); omega) ⟨vr, vr, vr, vr, trivial⟩ (fun w S => S)
     · -- 15 comes first
      refine l_in2 ?_
      refine o_lit e_Row_ok rfl Try.underlying43 rfl rfl rfl (lit_ok rfl) [(⟨bts out60, ⟨decide (((byteR ys60).1.toNat : Int) = 1), ⟨a70, out70, c70⟩, ((numR 0 0 ys70).1 : Int), ((numR 0 0 ys75).1 : Int)⟩⟩ : ItA)] rfl rfl fun a165 => ?_
      refine l_nil (q_out3 (h_next ?_))
      refine h_one 4 rfl (by kernel_rfl) ?_
      refine l_in3 ?_
      refine o_load1 rfl rfl Try.underlying43 rfl (rd_mem 1 rfl rfl) ?_
      refine l_nil (q_out3 (h_next ?_))
      refine h_one 16 rfl (by kernel_rfl) ?_
      refine l_in3 (l_f2 ?_)
      refine o_append e_Row_ok rfl rfl rfl Try.underlying43 (rds_own e_Row_ok 1 rfl) (by show (_ + _) * 64 ≤ _; (try simp only [List.length_append, List.length_cons, List.length_nil]); omega) (by (try simp only [List.length_append, List.length_cons, List.length_nil]); omega) fun a166 c166 => ?_
      refine l_f1 ?_
      refine l_drop ?_
      refine l_nil (q_out2 (h_next ?_))
      refine h_take 17 rfl rfl (by kernel_rfl) (by kernel_rfl) (by kernel_rfl) (fun L0 => v_nil rfl rfl) ?_
      refine h_take 18 rfl rfl (by kernel_rfl) (by kernel_rfl) (by kernel_rfl) (fun L0 => v_fieldAddr (q := ⟨m53, 1, none⟩) rfl rfl Try.underlying54 rfl ti43 rfl) ?_
      refine h_one 19 rfl (by kernel_rfl) ?_
      refine l_in2 (l_f1 ?_)
      refine o_store1 rfl rfl rfl ti43 rfl rfl ?_
      refine l_nil (q_out2 (h_next ?_))
      refine h_done (by kernel_rfl) ?_
      refine q_in2 (q_block (q_then (c_region (o_move rfl rfl ?_))))
      refine o_bin rfl rfl rfl (b_sub (show IntKind.u64.wrap ((m : Int) - 1) = ((m - 1 : Nat) : Int) from by rw [wrap_u64 (by omega) (by omega)]; omega)) ?_
      refine o_assign rfl rfl (l_nil ?_)
      have hxP : proj (⟨bts out60, ⟨decide (((byteR ys60).1.toNat : Int) = 1), ⟨a70, out70, c70⟩, ((numR 0 0 ys70).1 : Int), ((numR 0 0 ys75).1 : Int)⟩⟩ : ItA) = rowP yse := by unfold rowP rdKey rdVal rdCnt rdHas; rw [e3, ← f60, ← f65, ← f75, ← u8dec, ← hout60, ← hout70]; rfl
      refine qP p4 (qP p3 (qP p3 (qP p3 (qP p5 (qP p5 ?_)))))
      refine q_conv (L' := vals (xs ++ [(⟨bts out60, ⟨decide (((byteR ys60).1.toNat : Int) = 1), ⟨a70, out70, c70⟩, ((numR 0 0 ys70).1 : Int), ((numR 0 0 ys75).1 : Int)⟩⟩ : ItA)]) :: _) (fun w S => Sat.vals_app (x := (⟨bts out60, ⟨decide (((byteR ys60).1.toNat : Int) = 1), ⟨a70, out70, c70⟩, ((numR 0 0 ys70).1 : Int), ((numR 0 0 ys75).1 : Int)⟩⟩ : ItA)) S) ?_
      refine qP p4 (qT (qP p3 (qP p1 (qP p3 (qP p3 ?_)))))
      exact q_round (m - 1, i80, ys80, xs ++ [(⟨bts out60, ⟨decide (((byteR ys60).1.toNat : Int) = 1), ⟨a70, out70, c70⟩, ((numR 0 0 ys70).1 : Int), ((numR 0 0 ys75).1 : Int)⟩⟩ : ItA)], a166, c166) (by exact ⟨by dsimp only; omega, he80, q7 _ _ hxP f80⟩) (by (try dsimp only); omega) ⟨vr, vr, vr, vr, trivial⟩ (fun w S => S)
    · -- hne False
     refine c_quiet (by kernel_rfl) (by kernel_rfl) ?_
     refine Qt.o_val rfl (v_move rfl rfl) ?_
     refine Qt.o_val rfl (v_bin rfl rfl rfl b_geq) ?_
     refine Qt.l_eq (t := 136) (v' := .bool false) rfl (show _ = Value.bool false from by rw [decide_eq_false (by omega)]) ?_
     refine Qt.o_val rfl (v_move rfl rfl) ?_
     refine Qt.o_no rfl rfl rfl rfl ?_
     refine Qt.o_no rfl rfl rfl rfl ?_
     refine Qt.o_no rfl rfl rfl rfl ?_
     refine Qt.o_no rfl rfl rfl rfl ?_
     refine Qt.o_no rfl rfl rfl rfl ?_
     refine Qt.o_no rfl rfl rfl rfl ?_
     refine Qt.o_no rfl rfl rfl rfl ?_
     refine Qt.o_no rfl rfl rfl rfl ?_
     refine Qt.o_no rfl rfl rfl rfl ?_
     refine Qt.o_no rfl rfl rfl rfl ?_
     refine Qt.o_no rfl rfl rfl rfl ?_
     refine Qt.o_val rfl (v_pick_false rfl rfl rfl) ?_
     refine Qt.l_nil ?_
     refine q_then (c_false rfl (c_skip (q_then (cP p4 (cP p4 (cP p5 (cP p5 (cP p5 (cP p5 ?_)))))))))
     refine cP p3 (cP p3 (cP p3 (cP p3 (cP p5 (cP p5 ?_)))))
     refine c_heldF [blk m53 (.cells #[.int .i64 n, .slice ax (xs).length cx] 54 (0, 0)), row e_Row.T e_Row.sz ax (xs).length cx (flat e_Row xs)] (blk ke (.cells #[.slice a (bs).length c, .int .i64 (i80 : Int)] 92 (0, 0)) :: row e8.T e8.sz a70 (out70).length c70 (flat e8 out70) :: row e8.T e8.sz a60 (out60).length c60 (flat e8 out60) :: vals xs :: F) (by kernel_rfl) ?_
     refine h_take 0 rfl rfl (by kernel_rfl) (by kernel_rfl) (by kernel_rfl) (fun L0 => v_move rfl rfl) ?_
     refine h_take 1 rfl rfl (by kernel_rfl) (by kernel_rfl) (by kernel_rfl) (fun L0 => v_move rfl rfl) ?_
     refine h_take 2 rfl rfl (by kernel_rfl) (by kernel_rfl) (by kernel_rfl) (fun L0 => v_nil rfl rfl) ?_
     refine h_take 3 rfl rfl (by kernel_rfl) (by kernel_rfl) (by kernel_rfl) (fun L0 => v_fieldAddr (q := ⟨m53, 1, none⟩) rfl rfl Try.underlying54 rfl ti43 rfl) ?_
     refine h_take 5 rfl rfl (by kernel_rfl) (by kernel_rfl) (by kernel_rfl) (fun L0 => v_move rfl rfl) ?_
     refine h_take 6 rfl rfl (by kernel_rfl) (by kernel_rfl) (by kernel_rfl) (fun L0 => v_bytesStr (e := e8) rfl rfl rfl Try.underlying23 Try.underlying5 Try.underlying9 (rds_own e8_ok 2 rfl)) ?_
     refine h_take 7 rfl rfl (by kernel_rfl) (by kernel_rfl) (by kernel_rfl) (fun L0 => v_move rfl rfl) ?_
     refine h_take 8 rfl rfl (by kernel_rfl) (by kernel_rfl) (by kernel_rfl) (fun L0 => v_bin rfl rfl rfl b_eql) ?_
     refine h_take 9 rfl rfl (by kernel_rfl) (by kernel_rfl) (by kernel_rfl) (fun L0 => v_move rfl rfl) ?_
     refine h_take 10 rfl rfl (by kernel_rfl) (by kernel_rfl) (by kernel_rfl) (fun L0 => v_move rfl rfl) ?_
     refine h_take 11 rfl rfl (by kernel_rfl) (by kernel_rfl) (by kernel_rfl) (fun L0 => v_int rfl rfl Try.underlying34 Try.underlying3 (wrap_i64 (by omega) (by omega))) ?_
     refine h_take 12 rfl rfl (by kernel_rfl) (by kernel_rfl) (by kernel_rfl) (fun L0 => v_move rfl rfl) ?_
     refine h_take 13 rfl rfl (by kernel_rfl) (by kernel_rfl) (by kernel_rfl) (fun L0 => v_build rfl sp36 ti36 rfl ((fill_cons (cells' := [.bool (decide (((byteR ys60).1.toNat : Int) = 1)), .slice none 0 0, .int .i64 0, .int .u64 0]) rfl rfl rfl rfl (fill_cons (cells' := [.bool (decide (((byteR ys60).1.toNat : Int) = 1)), .slice a70 (out70).length c70, .int .i64 0, .int .u64 0]) rfl rfl rfl rfl (fill_cons (cells' := [.bool (decide (((byteR ys60).1.toNat : Int) = 1)), .slice a70 (out70).length c70, .int .i64 ((numR 0 0 ys70).1 : Int), .int .u64 0]) rfl rfl rfl rfl (fill_cons (cells' := [.bool (decide (((byteR ys60).1.toNat : Int) = 1)), .slice a70 (out70).length c70, .int .i64 ((numR 0 0 ys70).1 : Int), .int .u64 ((numR 0 0 ys75).1 : Int)]) rfl rfl rfl rfl fill_nil)))))) ?_
     refine h_take 14 rfl rfl (by kernel_rfl) (by kernel_rfl) (by kernel_rfl) (fun L0 => v_build rfl sp49 ti49 rfl ((fill_cons (cells' := [.string (bts out60), .bool false, .slice none 0 0, .int .i64 0, .int .u64 0]) rfl rfl rfl rfl (fill_cons (cells' := [.string (bts out60), .bool (decide (((byteR ys60).1.toNat : Int) = 1)), .slice a70 (out70).length c70, .int .i64 ((numR 0 0 ys70).1 : Int), .int .u64 ((numR 0 0 ys75).1 : Int)]) rfl rfl rfl rfl fill_nil)))) ?_
     refine h_many (is := [4, 15]) (by kernel_rfl) (by decide) (forall_cons ⟨_, rfl, ?_⟩ (forall_cons ⟨_, rfl, ?_⟩ forall_nil))
     · -- 4 comes first
      refine l_in2 ?_
      refine o_load1 rfl rfl Try.underlying43 rfl (rd_mem 0 rfl rfl) ?_
      refine l_nil (q_out2 (h_next ?_))
      refine h_one 15 rfl (by kernel_rfl) ?_
      refine l_in2 ?_
      refine o_lit e_Row_ok rfl Try.underlying43 rfl rfl rfl (lit_ok rfl) [(⟨bts out60, ⟨decide (((byteR ys60).1.toNat : Int) = 1), ⟨a70, out70, c70⟩, ((numR 0 0 ys70).1 : Int), ((numR 0 0 ys75).1 : Int)⟩⟩ : ItA)] rfl rfl fun a165 => ?_
      refine l_nil (q_out3 (h_next ?_))
      refine h_one 16 rfl (by kernel_rfl) ?_
      refine l_in3 (l_f2 ?_)
      refine o_append e_Row_ok rfl rfl rfl Try.underlying43 (rds_own e_Row_ok 1 rfl) (by show (_ + _) * 64 ≤ _; (try simp only [List.length_append, List.length_cons, List.length_nil]); omega) (by (try simp only [List.length_append, List.length_cons, List.length_nil]); omega) fun a166 c166 => ?_
      refine l_f1 ?_
      refine l_drop ?_
      refine l_nil (q_out2 (h_next ?_))
      refine h_take 17 rfl rfl (by kernel_rfl) (by kernel_rfl) (by kernel_rfl) (fun L0 => v_nil rfl rfl) ?_
      refine h_take 18 rfl rfl (by kernel_rfl) (by kernel_rfl) (by kernel_rfl) (fun L0 => v_fieldAddr (q := ⟨m53, 1, none⟩) rfl rfl Try.underlying54 rfl ti43 rfl) ?_
      refine h_one 19 rfl (by kernel_rfl) ?_
      refine l_in2 (l_f1 ?_)
      refine o_store1 rfl rfl rfl ti43 rfl rfl ?_
      refine l_nil (q_out2 (h_next ?_))
      refine h_done (by kernel_rfl) ?_
      refine q_in2 (q_block (q_then (c_region (o_move rfl rfl ?_))))
      refine o_bin rfl rfl rfl (b_sub (show IntKind.u64.wrap ((m : Int) - 1) = ((m - 1 : Nat) : Int) from by rw [wrap_u64 (by omega) (by omega)]; omega)) ?_
      refine o_assign rfl rfl (l_nil ?_)
      have hxP : proj (⟨bts out60, ⟨decide (((byteR ys60).1.toNat : Int) = 1), ⟨a70, out70, c70⟩, ((numR 0 0 ys70).1 : Int), ((numR 0 0 ys75).1 : Int)⟩⟩ : ItA) = rowP yse := by unfold rowP rdKey rdVal rdCnt rdHas; rw [e3, ← f60, ← f65, ← f75, ← u8dec, ← hout60, ← hout70]; rfl
      refine qP p4 (qP p3 (qP p3 (qP p3 (qP p5 (qP p5 ?_)))))
      refine q_conv (L' := vals (xs ++ [(⟨bts out60, ⟨decide (((byteR ys60).1.toNat : Int) = 1), ⟨a70, out70, c70⟩, ((numR 0 0 ys70).1 : Int), ((numR 0 0 ys75).1 : Int)⟩⟩ : ItA)]) :: _) (fun w S => Sat.vals_app (x := (⟨bts out60, ⟨decide (((byteR ys60).1.toNat : Int) = 1), ⟨a70, out70, c70⟩, ((numR 0 0 ys70).1 : Int), ((numR 0 0 ys75).1 : Int)⟩⟩ : ItA)) S) ?_
      refine qP p4 (qT (qP p3 (qP p1 (qP p3 (qP p3 ?_)))))
      exact q_round (m - 1, i80, ys80, xs ++ [(⟨bts out60, ⟨decide (((byteR ys60).1.toNat : Int) = 1), ⟨a70, out70, c70⟩, ((numR 0 0 ys70).1 : Int), ((numR 0 0 ys75).1 : Int)⟩⟩ : ItA)], a166, c166) (by exact ⟨by dsimp only; omega, he80, q7 _ _ hxP f80⟩) (by (try dsimp only); omega) ⟨vr, vr, vr, vr, trivial⟩ (fun w S => S)
     · -- 15 comes first
      refine l_in2 ?_
      refine o_lit e_Row_ok rfl Try.underlying43 rfl rfl rfl (lit_ok rfl) [(⟨bts out60, ⟨decide (((byteR ys60).1.toNat : Int) = 1), ⟨a70, out70, c70⟩, ((numR 0 0 ys70).1 : Int), ((numR 0 0 ys75).1 : Int)⟩⟩ : ItA)] rfl rfl fun a165 => ?_
      refine l_nil (q_out3 (h_next ?_))
      refine h_one 4 rfl (by kernel_rfl) ?_
      refine l_in3 ?_
      refine o_load1 rfl rfl Try.underlying43 rfl (rd_mem 1 rfl rfl) ?_
      refine l_nil (q_out3 (h_next ?_))
      refine h_one 16 rfl (by kernel_rfl) ?_
      refine l_in3 (l_f2 ?_)
      refine o_append e_Row_ok rfl rfl rfl Try.underlying43 (rds_own e_Row_ok 1 rfl) (by show (_ + _) * 64 ≤ _; (try simp only [List.length_append, List.length_cons, List.length_nil]); omega) (by (try simp only [List.length_append, List.length_cons, List.length_nil]); omega) fun a166 c166 => ?_
      refine l_f1 ?_
      refine l_drop ?_
      refine l_nil (q_out2 (h_next ?_))
      refine h_take 17 rfl rfl (by kernel_rfl) (by kernel_rfl) (by kernel_rfl) (fun L0 => v_nil rfl rfl) ?_
      refine h_take 18 rfl rfl (by kernel_rfl) (by kernel_rfl) (by kernel_rfl) (fun L0 => v_fieldAddr (q := ⟨m53, 1, none⟩) rfl rfl Try.underlying54 rfl ti43 rfl) ?_
      refine h_one 19 rfl (by kernel_rfl) ?_
      refine l_in2 (l_f1 ?_)
      refine o_store1 rfl rfl rfl ti43 rfl rfl ?_
      refine l_nil (q_out2 (h_next ?_))
      refine h_done (by kernel_rfl) ?_
      refine q_in2 (q_block (q_then (c_region (o_move rfl rfl ?_))))
      refine o_bin rfl rfl rfl (b_sub (show IntKind.u64.wrap ((m : Int) - 1) = ((m - 1 : Nat) : Int) from by rw [wrap_u64 (by omega) (by omega)]; omega)) ?_
      refine o_assign rfl rfl (l_nil ?_)
      have hxP : proj (⟨bts out60, ⟨decide (((byteR ys60).1.toNat : Int) = 1), ⟨a70, out70, c70⟩, ((numR 0 0 ys70).1 : Int), ((numR 0 0 ys75).1 : Int)⟩⟩ : ItA) = rowP yse := by unfold rowP rdKey rdVal rdCnt rdHas; rw [e3, ← f60, ← f65, ← f75, ← u8dec, ← hout60, ← hout70]; rfl
      refine qP p4 (qP p3 (qP p3 (qP p3 (qP p5 (qP p5 ?_)))))
      refine q_conv (L' := vals (xs ++ [(⟨bts out60, ⟨decide (((byteR ys60).1.toNat : Int) = 1), ⟨a70, out70, c70⟩, ((numR 0 0 ys70).1 : Int), ((numR 0 0 ys75).1 : Int)⟩⟩ : ItA)]) :: _) (fun w S => Sat.vals_app (x := (⟨bts out60, ⟨decide (((byteR ys60).1.toNat : Int) = 1), ⟨a70, out70, c70⟩, ((numR 0 0 ys70).1 : Int), ((numR 0 0 ys75).1 : Int)⟩⟩ : ItA)) S) ?_
      refine qP p4 (qT (qP p3 (qP p1 (qP p3 (qP p3 ?_)))))
      exact q_round (m - 1, i80, ys80, xs ++ [(⟨bts out60, ⟨decide (((byteR ys60).1.toNat : Int) = 1), ⟨a70, out70, c70⟩, ((numR 0 0 ys70).1 : Int), ((numR 0 0 ys75).1 : Int)⟩⟩ : ItA)], a166, c166) (by exact ⟨by dsimp only; omega, he80, q7 _ _ hxP f80⟩) (by (try dsimp only); omega) ⟨vr, vr, vr, vr, trivial⟩ (fun w S => S)
 · -- h1F
  have h1b := h1
  try simp only [decide_eq_false_iff_not, Int.not_lt, Int.not_le] at h1
  refine c_exit (q_pass_exit (q_pass_exit (q_hit (q_then (c_seq (c_seq (c_region (o_move rfl rfl (l_f3 ?_)))))))))
  refine o_call rfl cal53 rfl (r6end hs hee hl hcc) ?_
  rintro _ _ ⟨rfl, rfl⟩
  refine o_bin rfl rfl rfl b_neq ?_
  refine l_eq (t := 171) (v' := .bool false) rfl (show _ = Value.bool false from by rw [(hdr.fin (by omega)).2]; rfl) ?_
  refine l_nil (q_then (c_false rfl (c_skip (q_then (c_seq (c_region (o_move rfl rfl (o_assign rfl rfl (o_assign rfl rfl ?_)))))))))
  refine l_nil (q_then (c_ret (qT (qP p1 (qP p1 (qP p2 ?_))))))
  exact f_ret (r_two rfl rfl rfl) (⟨m53, ⟨n, xs⟩, rfl, (hdr.fin (by omega)).1, rfl, rfl⟩) (fun w S => Sat.obj_mk (ax, cx) ⟨⟨h1n, hn3, hdr.okr⟩, hdr.srt⟩ ((S.perm p2).perm p2))
end
end Go.Proofs.Ytnfbjidpiglabaa
