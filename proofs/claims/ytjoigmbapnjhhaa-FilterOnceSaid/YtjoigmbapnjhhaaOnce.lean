/- Printed by eng2.py out of 14/spec.py. -/
import Derived.Test.YtjoigmbapnjhhaaSpeaks
import Derived.Test.YtjoigmbapnjhhaaOncep
set_option linter.unusedVariables false
set_option linter.unusedSimpArgs false
set_option maxRecDepth 10000
namespace Go.Proofs.Ytjoigmbapnjhhaa
open Go.RowKit Classical
set_option maxHeartbeats 4000000 in
theorem once_ {W : World} {F : List Res} {g : Int} {log : List Item} {a : Option Addr} {c : Nat} (hs : RdS W F e_Item a log) (ho : ∀ x ∈ log, OrdR W F x.ord) (hn : log.length ≤ c ∧ c ≤ 9223372036854775807) : CS Try.prog 3 #[.int .i64 g, .slice a log.length c] W (F) (fun r L' => r = .bool true ∧ F = L') := by
 refine f_door (l0 := [(0, .int .i64 g), (1, .slice a log.length c)]) Try.func3 Try.ntmps3 rfl rfl rfl ?_
 refine c_seq ?_
 refine c_region ?_
 refine o_assign rfl rfl ?_
 refine l_nil ?_
 refine q_then ?_
 refine c_seq ?_
 refine c_seq ?_
 refine c_region ?_
 refine o_call rfl cal8 rfl (speaks_) ?_
 rintro _ _ ⟨rfl, rfl⟩
 refine o_not rfl rfl ?_
 refine l_nil ?_
 refine q_then ?_
 refine c_false rfl ?_
 refine c_skip ?_
 refine q_then ?_
 refine c_seq ?_
 refine c_seq ?_
 refine c_region ?_
 refine o_move rfl rfl ?_
 refine o_call rfl cal9 rfl (great_ hs (fun x hx => (ho x hx)) (by omega)) ?_
 rintro _ _ ⟨g17, hg17, rfl, rfl⟩
 refine o_move rfl rfl ?_
 refine l_split (t := 18) rfl (fun h1 => ?_) (fun h1 => ?_)
 · -- h1T
  have h1b := h1
  try simp only [decide_eq_true_eq, decide_eq_false_iff_not, Bool.not_eq_eq_eq_not, Bool.not_true, Bool.not_false, Bool.not_eq_true', Bool.not_eq_false', Int.not_lt, Int.not_le, Bool.or_eq_true, Bool.and_eq_true] at h1
  refine o_no rfl rfl rfl rfl ?_
  refine o_no rfl rfl rfl rfl ?_
  refine o_pick_true rfl rfl rfl ?_
  refine o_move rfl rfl ?_
  refine o_no rfl rfl rfl rfl ?_
  refine o_no rfl rfl rfl rfl ?_
  refine o_pick_true rfl rfl rfl ?_
  refine l_nil ?_
  refine q_then ?_
  refine c_true rfl ?_
  refine c_seq ?_
  refine c_region ?_
  refine o_assign rfl rfl ?_
  refine l_nil ?_
  refine q_then ?_
  refine c_ret ?_
  refine q_pass_ret ?_
  exact f_ret (r_one rfl rfl) (⟨rfl, rfl⟩) (fun w S => S)
 · -- h1F
  have h1b := h1
  try simp only [decide_eq_true_eq, decide_eq_false_iff_not, Bool.not_eq_eq_eq_not, Bool.not_true, Bool.not_false, Bool.not_eq_true', Bool.not_eq_false', Int.not_lt, Int.not_le, Bool.or_eq_true, Bool.and_eq_true] at h1
  refine o_yes rfl rfl rfl ?_
  refine o_move rfl rfl ?_
  refine o_yes rfl rfl rfl ?_
  refine o_bin rfl rfl rfl b_lss ?_
  refine o_pick_false rfl rfl rfl ?_
  refine o_move rfl rfl ?_
  refine l_split (t := 22) rfl (fun h2 => ?_) (fun h2 => ?_)
  · -- h2T
   have h2b := h2
   try simp only [decide_eq_true_eq] at h2
   refine o_no rfl rfl rfl rfl ?_
   refine o_no rfl rfl rfl rfl ?_
   refine o_pick_true rfl rfl rfl ?_
   refine l_nil ?_
   refine q_then ?_
   refine c_true rfl ?_
   refine c_seq ?_
   refine c_region ?_
   refine o_assign rfl rfl ?_
   refine l_nil ?_
   refine q_then ?_
   refine c_ret ?_
   refine q_pass_ret ?_
   exact f_ret (r_one rfl rfl) (⟨rfl, rfl⟩) (fun w S => S)
  · -- h2F
   have h2b := h2
   try simp only [decide_eq_false_iff_not, Int.not_lt, Int.not_le] at h2
   refine o_yes rfl rfl rfl ?_
   refine o_move rfl rfl ?_
   refine o_yes rfl rfl rfl ?_
   refine o_bin rfl rfl rfl b_gtr ?_
   refine o_pick_false rfl rfl rfl ?_
   refine l_nil ?_
   refine q_then ?_
   refine c_cond rfl (fun h3 => ?_) (fun h3 => ?_)
   · -- h3T
    have h3b := h3
    try simp only [decide_eq_true_eq] at h3
    refine c_seq ?_
    refine c_region ?_
    refine o_assign rfl rfl ?_
    refine l_nil ?_
    refine q_then ?_
    refine c_ret ?_
    refine q_pass_ret ?_
    exact f_ret (r_one rfl rfl) (⟨rfl, rfl⟩) (fun w S => S)
   · -- h3F
    have h3b := h3
    try simp only [decide_eq_false_iff_not, Int.not_lt, Int.not_le] at h3
    refine c_skip ?_
    refine q_then ?_
    refine c_seq ?_
    have hsm := hg17 (by assumption)
    have hl40 := hsm.1
    have hmk : ∀ x ∈ log, x.ord.f_Marks.xs.length ≤ 1000000 := fun x hx => by have := (hsm.2 x hx).m; omega
    refine c_region ?_
    refine o_move rfl rfl ?_
    refine o_call rfl cal10 rfl (region_ (g := g)) ?_
    rintro _ _ ⟨b27, rfl, rfl⟩
    refine o_move rfl rfl ?_
    refine o_call rfl cal10 rfl (region_ (g := g)) ?_
    rintro _ _ ⟨b29, rfl, rfl⟩
    refine o_assign rfl rfl ?_
    refine o_assign rfl rfl ?_
    refine l_nil ?_
    refine q_then ?_
    refine c_seq ?_
    refine c_seq ?_
    refine c_region ?_
    refine o_move rfl rfl ?_
    refine o_bin rfl rfl rfl (b_peq Try.underlying25 _) ?_
    refine o_move rfl rfl ?_
    refine o_yes rfl rfl rfl ?_
    refine o_move rfl rfl ?_
    refine o_yes rfl rfl rfl ?_
    refine o_bin rfl rfl rfl (b_peq Try.underlying25 _) ?_
    refine o_pick_false rfl rfl rfl ?_
    refine l_nil ?_
    refine q_then ?_
    refine c_false rfl ?_
    refine c_skip ?_
    refine q_then ?_
    refine c_seq ?_
    refine c_region ?_
    refine o_makeMap kvTag vvBool rfl fun m36 => ?_
    refine o_assign rfl rfl ?_
    refine o_assign rfl rfl ?_
    refine l_nil ?_
    refine q_then ?_
    refine c_seq ?_
    refine c_seq ?_
    refine c_region ?_
    refine o_move rfl rfl ?_
    refine o_len rfl rfl Try.underlying22 ?_
    refine o_move rfl rfl ?_
    refine l_nil ?_
    refine q_then ?_
    refine c_block ?_
    refine c_loop (α := Nat × FS × FS × (List (Tag × Bool)) × Int) (fun z => [(5, .pointer (some ⟨b27, 0, none⟩)), (6, .pointer (some ⟨b29, 0, none⟩)), (7, .map (some m36)), (8, .int .i64 z.2.2.2.2), (37, .slice a (log).length c), (38, .int .i64 ((log).length : Int)), (39, .int .i64 (z.1 : Int))]) (fun z => mapR kvTag vvBool m36 z.2.2.2.1 :: FltR b29 z.2.2.1 :: FltR b27 z.2.1 :: F) (fun z => z.1 ≤ log.length ∧ OnceI g (log.take z.1) z.2.1 z.2.2.1 z.2.2.2.1 z.2.2.2.2) (fun z => log.length - z.1) (0, ⟨g, -1, []⟩, ⟨g, -1, []⟩, [], -1) (by exact ⟨Nat.zero_le _, once_0 g⟩) ⟨(by first | rfl | exact vint (by omega)), (by first | rfl | exact vint (by omega)), (by first | rfl | exact vint (by omega)), (by first | rfl | exact vint (by omega)), (by first | rfl | exact vint (by omega)), (by first | rfl | exact vint (by omega)), (by first | rfl | exact vint (by omega)), trivial⟩ (fun w S => S) ?_
    rintro ⟨i, s, q, D, l⟩ ⟨hi, hI⟩
    try dsimp only at *
    refine c_seq ?_
    refine c_region ?_
    refine o_bin rfl rfl rfl b_lss ?_
    refine l_nil ?_
    refine q_then ?_
    refine c_seq ?_
    refine c_cond rfl (fun h4 => ?_) (fun h4 => ?_)
    · -- h4T
     have h4b := h4
     try simp only [decide_eq_true_eq] at h4
     refine c_skip ?_
     refine q_then ?_
     refine c_seq ?_
     refine c_block ?_
     refine c_seq ?_
     refine c_region ?_
     refine o_index e_Item_ok rfl rfl rfl Try.underlying22 (by omega) (by omega) (rds_c (rds_c (rds_c hs))) fun ad41 ead41 => ?_
     obtain ⟨x41, hx41⟩ : ∃ x, (log)[((i : Int)).toNat]? = some x := ⟨_, List.getElem?_eq_getElem (by omega)⟩
     refine o_loadn (vs := e_Item.cells x41) rfl rfl Try.underlying41 rfl ti41 (rdn_sl e_Item_ok ead41 (rds_c (rds_c (rds_c hs))) hx41) ?_
     refine o_alloc rfl ti41 fun b10 => ?_
     refine o_storen rfl rfl ti41 rfl rfl rfl rfl ?_
     refine l_nil ?_
     refine q_then ?_
     refine c_seq ?_
     have hN := once_on hI.hs hI.hq (by rw [List.length_take]; omega) x41
     refine c_region ?_
     refine o_move rfl rfl ?_
     refine o_loadn (vs := [_, _, _, _, _, _, _, _, _, _, _, _]) rfl rfl Try.underlying41 rfl ti41 (rdn_lit 0 rfl rfl) ?_
     refine l_f3 ?_
     refine o_call rfl cal11 rfl (fitem_ (x := x41) (OrdR.c (OrdR.c (OrdR.c (ho x41 (List.mem_of_getElem? hx41))))) (hmk x41 (List.mem_of_getElem? hx41))) ?_
     rintro _ _ ⟨rfl, rfl⟩
     refine o_assign rfl rfl ?_
     refine l_nil ?_
     refine q_then ?_
     refine c_seq ?_
     refine c_region ?_
     refine o_move rfl rfl ?_
     refine o_loadn (vs := [_, _, _, _, _, _, _, _, _, _, _, _]) rfl rfl Try.underlying41 rfl ti41 (rdn_lit 1 rfl rfl) ?_
     refine l_f3 ?_
     refine o_call rfl cal11 rfl (fitem_ (x := x41) (OrdR.c (OrdR.c (OrdR.c (ho x41 (List.mem_of_getElem? hx41))))) (hmk x41 (List.mem_of_getElem? hx41))) ?_
     rintro _ _ ⟨rfl, rfl⟩
     refine o_assign rfl rfl ?_
     refine l_nil ?_
     refine q_then ?_
     refine c_seq ?_
     refine c_region ?_
     refine o_move rfl rfl ?_
     refine o_loadn (vs := [_, _, _, _, _, _, _, _, _, _, _, _]) rfl rfl Try.underlying41 rfl ti41 (rdn_lit 2 rfl rfl) ?_
     refine o_call rfl cal11 rfl (fitem_ (x := x41) (OrdR.c (OrdR.c (OrdR.c (ho x41 (List.mem_of_getElem? hx41))))) (hmk x41 (List.mem_of_getElem? hx41))) ?_
     rintro _ _ ⟨rfl, rfl⟩
     refine o_assign rfl rfl ?_
     refine l_nil ?_
     refine q_then ?_
     refine c_seq ?_
     refine c_seq ?_
     refine c_region ?_
     refine o_move rfl rfl ?_
     refine o_move rfl rfl ?_
     refine o_bin rfl rfl rfl (b_bne Try.underlying4 _ _) ?_
     refine l_eq (t := 54) (v' := .bool false) rfl (show _ = Value.bool false from by rw [hN.e2]; simp) ?_
     refine o_move rfl rfl ?_
     refine o_yes rfl rfl rfl ?_
     refine o_move rfl rfl ?_
     refine l_eq (t := 56) (v' := .bool false) rfl (show _ = Value.bool false from by rw [hN.e3]) ?_
     refine o_pick_false rfl rfl rfl ?_
     refine l_nil ?_
     refine q_then ?_
     refine c_false rfl ?_
     refine c_skip ?_
     refine q_then ?_
     refine c_seq ?_
     refine c_seq ?_
     refine c_region ?_
     refine o_move rfl rfl ?_
     refine o_not rfl rfl ?_
     refine l_nil ?_
     refine q_then ?_
     refine c_cond rfl (fun h5 => ?_) (fun h5 => ?_)
     · -- h5T
      have h5b := h5
      try simp only [decide_eq_true_eq, decide_eq_false_iff_not, Bool.not_eq_eq_eq_not, Bool.not_true, Bool.not_false, Bool.not_eq_true', Bool.not_eq_false', Int.not_lt, Int.not_le, Bool.or_eq_true, Bool.and_eq_true] at h5
      have hcx : ¬ CX g l (log.take i) x41 := by intro h9; rw [hN.e1, decide_eq_true h9] at h5b; cases h5b
      refine c_exit ?_
      refine q_pass_exit ?_
      refine q_hit ?_
      refine q_then ?_
      refine c_region ?_
      refine o_bin rfl rfl rfl (b_add (wrap_i64 (by omega) (by omega))) ?_
      refine o_move rfl rfl ?_
      refine l_nil ?_
      refine q_conv (fun w S => (S.perm p2).tail) ?_
      refine q_conv (fun w S => S.perm p1) ?_
      refine q_conv (fun w S => S.perm p1) ?_
      refine q_conv (fun w S => S.perm p2) ?_
      exact q_round (i + 1, (s.item x41).2, (((q.item x41).2).item x41).2, D, l) (by exact ⟨by omega, once_no hI hN hx41 hcx⟩) (by (try dsimp only); omega) ⟨(by first | rfl | exact vint (by omega)), (by first | rfl | exact vint (by omega)), (by first | rfl | exact vint (by omega)), (by first | rfl | exact vint (by omega)), (by first | rfl | exact vint (by omega)), (by first | rfl | exact vint (by omega)), (by first | rfl | exact vint (by omega)), trivial⟩ (fun w S => S)
     · -- h5F
      have h5b := h5
      try simp only [decide_eq_true_eq, decide_eq_false_iff_not, Bool.not_eq_eq_eq_not, Bool.not_true, Bool.not_false, Bool.not_eq_true', Bool.not_eq_false', Int.not_lt, Int.not_le, Bool.or_eq_true, Bool.and_eq_true] at h5
      have hcx : CX g l (log.take i) x41 := Classical.byContradiction fun h9 => by rw [hN.e1, decide_eq_false h9] at h5b; cases h5b
      refine c_skip ?_
      refine q_then ?_
      refine c_seq ?_
      refine c_seq ?_
      refine c_region ?_
      refine o_fieldAddr (q := ⟨b10, 0, none⟩) rfl rfl Try.underlying41 rfl ti3 rfl ?_
      refine o_load1 rfl rfl Try.underlying3 rfl (rd_mem 2 rfl rfl) ?_
      refine o_bin rfl rfl rfl b_eql ?_
      refine l_nil ?_
      refine q_then ?_
      refine c_cond rfl (fun h6 => ?_) (fun h6 => ?_)
      · -- h6T
       have h6b := h6
       try simp only [decide_eq_true_eq] at h6
       refine c_seq ?_
       refine c_seq ?_
       refine c_region ?_
       refine o_move rfl rfl ?_
       refine o_fieldAddr (q := ⟨b10, 2, none⟩) rfl rfl Try.underlying41 rfl ti39 rfl ?_
       refine o_fieldAddr (q := ⟨b10, 2, none⟩) rfl rfl Try.underlying39 rfl ti32 rfl ?_
       refine o_loadn (vs := [_, _, _, _]) rfl rfl Try.underlying32 rfl ti32 (rdn_lit 2 rfl rfl) ?_
       refine o_lookupD (kv := kvTag) (vv := vvBool) (b0 := false) (q := x41.ord.tag) 3 rfl koTag rfl rfl rfl Try.underlying27 ti4 ?_
       refine l_eq (t := 67) (v' := .bool false) rfl (show _ = Value.bool false from by exact congrArg Value.bool (once_new hI hcx h6)) ?_
       refine l_nil ?_
       refine q_then ?_
       refine c_false rfl ?_
       refine c_skip ?_
       refine q_then ?_
       refine c_seq ?_
       refine c_region ?_
       refine o_move rfl rfl ?_
       refine o_fieldAddr (q := ⟨b10, 2, none⟩) rfl rfl Try.underlying41 rfl ti39 rfl ?_
       refine o_fieldAddr (q := ⟨b10, 2, none⟩) rfl rfl Try.underlying39 rfl ti32 rfl ?_
       refine o_loadn (vs := [_, _, _, _]) rfl rfl Try.underlying32 rfl ti32 (rdn_lit 2 rfl rfl) ?_
       refine l_f3 ?_
       refine o_mapUpdate (q := x41.ord.tag) (b := true) koTag rfl rfl rfl Try.underlying27 ?_
       refine l_nil ?_
       refine q_then ?_
       refine c_exit ?_
       refine q_pass_exit ?_
       refine q_hit ?_
       refine q_then ?_
       refine c_region ?_
       refine o_bin rfl rfl rfl (b_add (wrap_i64 (by omega) (by omega))) ?_
       refine o_move rfl rfl ?_
       refine l_nil ?_
       refine q_conv (fun w S => (S.perm p3).tail) ?_
       exact q_round (i + 1, (s.item x41).2, (((q.item x41).2).item x41).2, mset D x41.ord.tag true, l) (by exact ⟨by omega, once_run hI hN hx41 hcx h6⟩) (by (try dsimp only); omega) ⟨(by first | rfl | exact vint (by omega)), (by first | rfl | exact vint (by omega)), (by first | rfl | exact vint (by omega)), (by first | rfl | exact vint (by omega)), (by first | rfl | exact vint (by omega)), (by first | rfl | exact vint (by omega)), (by first | rfl | exact vint (by omega)), trivial⟩ (fun w S => S)
      · -- h6F
       have h6b := h6
       try simp only [decide_eq_false_iff_not, Int.not_lt, Int.not_le] at h6
       refine c_skip ?_
       refine q_then ?_
       refine c_seq ?_
       refine c_seq ?_
       refine c_region ?_
       refine o_fieldAddr (q := ⟨b10, 1, none⟩) rfl rfl Try.underlying41 rfl ti3 rfl ?_
       refine o_load1 rfl rfl Try.underlying3 rfl (rd_mem 2 rfl rfl) ?_
       refine o_move rfl rfl ?_
       refine o_bin rfl rfl rfl b_leq ?_
       refine l_eq (t := 75) (v' := .bool false) rfl (show _ = Value.bool false from by rw [decide_eq_false (once_above hcx h6)]) ?_
       refine l_nil ?_
       refine q_then ?_
       refine c_false rfl ?_
       refine c_skip ?_
       refine q_then ?_
       refine c_region ?_
       refine o_fieldAddr (q := ⟨b10, 1, none⟩) rfl rfl Try.underlying41 rfl ti3 rfl ?_
       refine o_load1 rfl rfl Try.underlying3 rfl (rd_mem 2 rfl rfl) ?_
       refine o_assign rfl rfl ?_
       refine l_nil ?_
       refine q_block ?_
       refine q_then ?_
       refine c_region ?_
       refine o_bin rfl rfl rfl (b_add (wrap_i64 (by omega) (by omega))) ?_
       refine o_move rfl rfl ?_
       refine l_nil ?_
       refine q_conv (fun w S => (S.perm p2).tail) ?_
       refine q_conv (fun w S => S.perm p1) ?_
       refine q_conv (fun w S => S.perm p1) ?_
       refine q_conv (fun w S => S.perm p2) ?_
       exact q_round (i + 1, (s.item x41).2, (((q.item x41).2).item x41).2, D, x41.f_Index) (by exact ⟨by omega, once_piece hI hN hx41 hcx h6⟩) (by (try dsimp only); omega) ⟨(by first | rfl | exact vint (by omega)), (by first | rfl | exact vint (by omega)), (by first | rfl | exact vint (by omega)), (by first | rfl | exact vint (by omega)), (by first | rfl | exact vint (by omega)), (by first | rfl | exact vint (by omega)), (by first | rfl | exact vint (by omega)), trivial⟩ (fun w S => S)
    · -- h4F
     have h4b := h4
     try simp only [decide_eq_false_iff_not, Int.not_lt, Int.not_le] at h4
     refine c_exit ?_
     refine q_pass_exit ?_
     refine q_pass_exit ?_
     refine q_hit ?_
     refine q_then ?_
     refine c_seq ?_
     refine c_region ?_
     refine o_move rfl rfl ?_
     refine l_f2 ?_
     refine o_call rfl cal12 rfl (flast_) ?_
     rintro _ _ ⟨rfl, rfl⟩
     refine o_move rfl rfl ?_
     refine o_bin rfl rfl rfl b_eql ?_
     refine l_eq (t := 82) (v' := .bool true) rfl (show _ = Value.bool true from by rw [decide_eq_true hI.hs.last]) ?_
     refine o_move rfl rfl ?_
     refine o_yes rfl rfl rfl ?_
     refine o_move rfl rfl ?_
     refine o_yes rfl rfl rfl ?_
     refine l_f2 ?_
     refine o_call rfl cal12 rfl (flast_) ?_
     rintro _ _ ⟨rfl, rfl⟩
     refine o_yes rfl rfl rfl ?_
     refine o_move rfl rfl ?_
     refine o_yes rfl rfl rfl ?_
     refine o_bin rfl rfl rfl b_eql ?_
     refine l_eq (t := 87) (v' := .bool true) rfl (show _ = Value.bool true from by rw [decide_eq_true hI.hq.last]) ?_
     refine o_pick_true rfl rfl rfl ?_
     refine o_assign rfl rfl ?_
     refine l_nil ?_
     refine q_then ?_
     refine c_ret ?_
     refine q_conv (fun w S => S.tail) ?_
     refine q_conv (fun w S => S.tail) ?_
     refine q_conv (fun w S => S.tail) ?_
     exact f_ret (r_one rfl rfl) (⟨rfl, rfl⟩) (fun w S => S)

end Go.Proofs.Ytjoigmbapnjhhaa
