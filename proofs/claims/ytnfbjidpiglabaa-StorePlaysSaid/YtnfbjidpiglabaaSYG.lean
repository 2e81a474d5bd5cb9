/- Texts of the proof: Ran6, Spoil, Dop, Do6, Movesp, Ty2, Plain, Slices, Pen, Snapp, Snap6, RNum, RSnap, Great6, Plays, Args. -/
import Derived.Test.YtnfbjidpiglabaaSYF
namespace Go.Proofs.Ytnfbjidpiglabaa
section
set_option linter.unusedVariables false
set_option linter.unusedSimpArgs false
set_option maxRecDepth 10000
open Go.RowKit Classical
set_option maxHeartbeats 1000000 in
theorem rrange_ {W : World} {F : List Res} {m : Nat} {s : SS} {f : ByteArray} {mo : Int} (hl : s.xs.length ≤ 1000000) : CS Try.prog 35 #[.pointer (some ⟨m, 0, none⟩), .string f, .int .i64 mo] W (RfR m s :: F) (fun r L' => ∃ (a' : Option Addr) (c' : Nat), r = .slice a' (rngI f mo s.xs).length c' ∧ L' = row e_Row.T e_Row.sz a' ((rngI f mo s.xs)).length c' (flat e_Row (rngI f mo s.xs)) :: RfR m s :: F) := by
 refine f_door (l0 := [(0, .pointer (some ⟨m, 0, none⟩)), (1, .string f), (2, .int .i64 mo)]) Try.func35 Try.ntmps35 rfl rfl rfl ?_
 refine c_seq ?_
 refine c_region ?_
 refine o_assign rfl rfl ?_
 refine l_nil ?_
 refine q_then ?_
 refine c_seq ?_
 refine c_obj ?_
 rintro ⟨a_1, c_1⟩ ok_1
 refine c_conv (L' := blk m (.cells #[.int .i64 s.n, .slice a_1 (s.xs).length c_1] 54 (0, 0)) :: row e_Row.T e_Row.sz a_1 (s.xs).length c_1 (flat e_Row s.xs) :: vals s.xs :: _) (fun w S => S) ?_
 refine c_region ?_
 refine o_lit e_Row_ok rfl Try.underlying43 rfl rfl rfl (lit_ok rfl) ([] : List ItA) rfl rfl fun a9 => ?_
 refine o_assign rfl rfl ?_
 refine l_nil ?_
 refine q_then ?_
 refine c_seq ?_
 refine c_seq ?_
 refine c_region ?_
 refine o_assign rfl rfl ?_
 refine l_nil ?_
 refine q_then ?_
 refine c_block ?_
 refine c_loop (α := Nat × (List ItA) × (Option Addr) × Nat) (fun z => [(0, .pointer (some ⟨m, 0, none⟩)), (1, .string f), (2, .int .i64 mo), (7, .slice z.2.2.1 (z.2.1).length z.2.2.2), (8, .int .i64 (z.1 : Int))]) (fun z => row e_Row.T e_Row.sz z.2.2.1 (z.2.1).length z.2.2.2 (flat e_Row z.2.1) :: blk m (.cells #[.int .i64 s.n, .slice a_1 (s.xs).length c_1] 54 (0, 0)) :: row e_Row.T e_Row.sz a_1 (s.xs).length c_1 (flat e_Row s.xs) :: vals s.xs :: F) (fun z => z.1 ≤ s.xs.length ∧ z.2.1 = rngI f mo (s.xs.take z.1)) (fun z => s.xs.length - z.1) (0, ([] : List ItA), a9, 0) (by exact ⟨Nat.zero_le _, by simp [rngI]⟩) ⟨(by first | rfl | exact vint (by omega)), (by first | rfl | exact vint (by omega)), (by first | rfl | exact vint (by omega)), (by first | rfl | exact vint (by omega)), (by first | rfl | exact vint (by omega)), trivial⟩ (fun w S => S) ?_
 rintro ⟨i, O, ao, co⟩ ⟨hi, hO⟩
 try dsimp only at *
 refine c_seq ?_
 refine c_seq ?_
 refine c_region ?_
 refine o_move rfl rfl ?_
 refine o_move rfl rfl ?_
 refine o_nil rfl rfl ?_
 refine o_fieldAddr (q := ⟨m, 1, none⟩) rfl rfl Try.underlying54 rfl ti43 rfl ?_
 refine o_load1 rfl rfl Try.underlying43 rfl (rd_mem 1 rfl rfl) ?_
 refine o_len rfl rfl Try.underlying43 ?_
 refine o_bin rfl rfl rfl b_lss ?_
 refine l_nil ?_
 refine q_then ?_
 refine c_cond rfl (fun h1 => ?_) (fun h1 => ?_)
 · -- h1T
  have h1b := h1
  try simp only [decide_eq_true_eq] at h1
  refine c_skip ?_
  refine q_then ?_
  refine c_seq ?_
  refine c_block ?_
  refine c_seq ?_
  have hol : O.length ≤ 1000000 := by have h9 := rngI_le (f := f) (most := mo) (xs := s.xs.take i); rw [← hO, List.length_take] at h9; omega
  refine c_region ?_
  refine o_move rfl rfl ?_
  refine o_nil rfl rfl ?_
  refine o_fieldAddr (q := ⟨m, 1, none⟩) rfl rfl Try.underlying54 rfl ti43 rfl ?_
  refine o_load1 rfl rfl Try.underlying43 rfl (rd_mem 1 rfl rfl) ?_
  refine o_move rfl rfl ?_
  refine o_index e_Row_ok rfl rfl rfl Try.underlying43 (by omega) (by omega) (rds_own e_Row_ok 2 rfl) fun ad24 ead24 => ?_
  obtain ⟨x24, hx24⟩ : ∃ x, (s.xs)[((i : Int)).toNat]? = some x := ⟨_, List.getElem?_eq_getElem (by omega)⟩
  refine o_fieldAddr rfl rfl Try.underlying49 rfl ti9 (Addr.add_add' _ _ _) ?_
  refine o_load1 rfl rfl Try.underlying9 rfl (rd_sl e_Row_ok ead24 (rds_own e_Row_ok 2 rfl) hx24 rfl) ?_
  refine o_move rfl rfl ?_
  refine o_bin rfl rfl rfl b_sgeq ?_
  refine o_move rfl rfl ?_
  refine l_split (t := 29) rfl (fun h2 => ?_) (fun h2 => ?_)
  · -- h2T
   have h2b := h2
   try simp only [decide_eq_true_eq, decide_eq_false_iff_not, Bool.not_eq_eq_eq_not, Bool.not_true, Bool.not_false, Bool.not_eq_true', Bool.not_eq_false', Int.not_lt, Int.not_le, Bool.or_eq_true, Bool.and_eq_true] at h2
   refine o_yes rfl rfl rfl ?_
   refine o_move rfl rfl ?_
   refine o_yes rfl rfl rfl ?_
   refine o_nil rfl rfl ?_
   refine o_yes rfl rfl rfl ?_
   refine o_fieldAddr (q := ⟨m, 1, none⟩) rfl rfl Try.underlying54 rfl ti43 rfl ?_
   refine o_yes rfl rfl rfl ?_
   refine o_load1 rfl rfl Try.underlying43 rfl (rd_mem 1 rfl rfl) ?_
   refine o_yes rfl rfl rfl ?_
   refine o_move rfl rfl ?_
   refine o_yes rfl rfl rfl ?_
   refine o_indexK e_Row_ok ead24 rfl rfl rfl Try.underlying43 (by omega) (by omega) ?_
   obtain ⟨x35, hx35⟩ : ∃ x, (s.xs)[((i : Int)).toNat]? = some x := ⟨_, List.getElem?_eq_getElem (by omega)⟩
   have e35 : x35 = x24 := by rw [hx35] at hx24; exact Option.some.inj hx24
   refine o_yes rfl rfl rfl ?_
   refine o_fieldAddr rfl rfl Try.underlying49 rfl ti36 (Addr.add_add' _ _ _) ?_
   refine o_yes rfl rfl rfl ?_
   refine o_fieldAddr rfl rfl Try.underlying36 rfl ti4 (Addr.add_add' _ _ _) ?_
   refine o_yes rfl rfl rfl ?_
   refine o_load1 rfl rfl Try.underlying4 rfl (rd_sl e_Row_ok ead24 (rds_own e_Row_ok 2 rfl) hx35 rfl) ?_
   refine o_pick_true rfl rfl rfl ?_
   refine o_move rfl rfl ?_
   refine l_split (t := 40) rfl (fun h3 => ?_) (fun h3 => ?_)
   · -- h3T
    have h3b := h3
    try simp only [decide_eq_true_eq, decide_eq_false_iff_not, Bool.not_eq_eq_eq_not, Bool.not_true, Bool.not_false, Bool.not_eq_true', Bool.not_eq_false', Int.not_lt, Int.not_le, Bool.or_eq_true, Bool.and_eq_true] at h3
    refine o_yes rfl rfl rfl ?_
    refine o_move rfl rfl ?_
    refine o_yes rfl rfl rfl ?_
    refine o_len rfl rfl Try.underlying43 ?_
    refine o_yes rfl rfl rfl ?_
    refine o_move rfl rfl ?_
    refine o_yes rfl rfl rfl ?_
    refine o_bin rfl rfl rfl b_lss ?_
    refine o_pick_true rfl rfl rfl ?_
    refine l_nil ?_
    refine q_then ?_
    refine c_cond rfl (fun h4 => ?_) (fun h4 => ?_)
    · -- h4T
     have h4b := h4
     try simp only [decide_eq_true_eq] at h4
     refine c_region ?_
     refine o_move rfl rfl ?_
     refine o_move rfl rfl ?_
     refine o_nil rfl rfl ?_
     refine o_fieldAddr (q := ⟨m, 1, none⟩) rfl rfl Try.underlying54 rfl ti43 rfl ?_
     refine o_load1 rfl rfl Try.underlying43 rfl (rd_mem 1 rfl rfl) ?_
     refine o_move rfl rfl ?_
     refine o_indexK e_Row_ok ead24 rfl rfl rfl Try.underlying43 (by omega) (by omega) ?_
     obtain ⟨x52, hx52⟩ : ∃ x, (s.xs)[((i : Int)).toNat]? = some x := ⟨_, List.getElem?_eq_getElem (by omega)⟩
     have e52 : x52 = x24 := by rw [hx52] at hx24; exact Option.some.inj hx24
     refine o_loadn (vs := e_Row.cells x52) rfl rfl Try.underlying49 rfl ti49 (rdn_sl e_Row_ok ead24 (rds_own e_Row_ok 2 rfl) hx52) ?_
     refine o_lit e_Row_ok rfl Try.underlying43 rfl rfl rfl (lit_ok rfl) [x52] rfl rfl fun a54 => ?_
     refine l_f1 ?_
     refine o_append e_Row_ok rfl rfl rfl Try.underlying43 (rds_own e_Row_ok 1 rfl) (by show (_ + _) * 64 ≤ _; (try simp only [List.length_append, List.length_cons, List.length_nil]); omega) (by (try simp only [List.length_append, List.length_cons, List.length_nil]); omega) fun a55 c55 => ?_
     refine l_f1 ?_
     refine l_drop ?_
     refine o_assign rfl rfl ?_
     refine l_nil ?_
     refine q_block ?_
     refine q_then ?_
     refine c_region ?_
     refine o_move rfl rfl ?_
     refine o_bin rfl rfl rfl (b_add (wrap_i64 (by omega) (by omega))) ?_
     refine o_assign rfl rfl ?_
     refine l_nil ?_
     exact q_round (i + 1, O ++ [x52], a55, c55) (by exact ⟨by omega, by rw [rng_yes (show s.xs[i]? = some x24 from hx24) (show ¬ slt x24.f_key f = true by simp_all) (by rw [← e35]; assumption) (by rw [← hO]; omega), ← hO, e52]⟩) (by (try dsimp only); omega) ⟨(by first | rfl | exact vint (by omega)), (by first | rfl | exact vint (by omega)), (by first | rfl | exact vint (by omega)), (by first | rfl | exact vint (by omega)), (by first | rfl | exact vint (by omega)), trivial⟩ (fun w S => S)
    · -- h4F
     have h4b := h4
     try simp only [decide_eq_false_iff_not, Int.not_lt, Int.not_le] at h4
     refine c_skip ?_
     refine q_block ?_
     refine q_then ?_
     refine c_region ?_
     refine o_move rfl rfl ?_
     refine o_bin rfl rfl rfl (b_add (wrap_i64 (by omega) (by omega))) ?_
     refine o_assign rfl rfl ?_
     refine l_nil ?_
     exact q_round (i + 1, O, ao, co) (by exact ⟨by omega, by rw [rng_no (show s.xs[i]? = some x24 from hx24) (by first | (refine .inl ?_; show slt x24.f_key f = true; simp_all; done) | (refine .inr (.inl ?_); rw [← e35]; assumption) | (refine .inr (.inr ?_); rw [← hO]; omega)), ← hO]⟩) (by (try dsimp only); omega) ⟨(by first | rfl | exact vint (by omega)), (by first | rfl | exact vint (by omega)), (by first | rfl | exact vint (by omega)), (by first | rfl | exact vint (by omega)), (by first | rfl | exact vint (by omega)), trivial⟩ (fun w S => S)
   · -- h3F
    have h3b := h3
    try simp only [decide_eq_true_eq, decide_eq_false_iff_not, Bool.not_eq_eq_eq_not, Bool.not_true, Bool.not_false, Bool.not_eq_true', Bool.not_eq_false', Int.not_lt, Int.not_le, Bool.or_eq_true, Bool.and_eq_true] at h3
    refine o_no rfl rfl rfl rfl ?_
    refine o_no rfl rfl rfl rfl ?_
    refine o_no rfl rfl rfl rfl ?_
    refine o_no rfl rfl rfl rfl ?_
    refine o_pick_false rfl rfl rfl ?_
    refine l_nil ?_
    refine q_then ?_
    refine c_false rfl ?_
    refine c_skip ?_
    refine q_block ?_
    refine q_then ?_
    refine c_region ?_
    refine o_move rfl rfl ?_
    refine o_bin rfl rfl rfl (b_add (wrap_i64 (by omega) (by omega))) ?_
    refine o_assign rfl rfl ?_
    refine l_nil ?_
    exact q_round (i + 1, O, ao, co) (by exact ⟨by omega, by rw [rng_no (show s.xs[i]? = some x24 from hx24) (by first | (refine .inl ?_; show slt x24.f_key f = true; simp_all; done) | (refine .inr (.inl ?_); rw [← e35]; assumption) | (refine .inr (.inr ?_); rw [← hO]; omega)), ← hO]⟩) (by (try dsimp only); omega) ⟨(by first | rfl | exact vint (by omega)), (by first | rfl | exact vint (by omega)), (by first | rfl | exact vint (by omega)), (by first | rfl | exact vint (by omega)), (by first | rfl | exact vint (by omega)), trivial⟩ (fun w S => S)
  · -- h2F
   have h2b := h2
   try simp only [decide_eq_true_eq, decide_eq_false_iff_not, Bool.not_eq_eq_eq_not, Bool.not_true, Bool.not_false, Bool.not_eq_true', Bool.not_eq_false', Int.not_lt, Int.not_le, Bool.or_eq_true, Bool.and_eq_true] at h2
   refine o_no rfl rfl rfl rfl ?_
   refine o_no rfl rfl rfl rfl ?_
   refine o_no rfl rfl rfl rfl ?_
   refine o_no rfl rfl rfl rfl ?_
   refine o_no rfl rfl rfl rfl ?_
   refine o_no rfl rfl rfl rfl ?_
   refine o_no rfl rfl rfl rfl ?_
   refine o_no rfl rfl rfl rfl ?_
   refine o_no rfl rfl rfl rfl ?_
   refine o_pick_false rfl rfl rfl ?_
   refine o_move rfl rfl ?_
   refine o_no rfl rfl rfl rfl ?_
   refine o_no rfl rfl rfl rfl ?_
   refine o_no rfl rfl rfl rfl ?_
   refine o_no rfl rfl rfl rfl ?_
   refine o_pick_false rfl rfl rfl ?_
   refine l_nil ?_
   refine q_then ?_
   refine c_false rfl ?_
   refine c_skip ?_
   refine q_block ?_
   refine q_then ?_
   refine c_region ?_
   refine o_move rfl rfl ?_
   refine o_bin rfl rfl rfl (b_add (wrap_i64 (by omega) (by omega))) ?_
   refine o_assign rfl rfl ?_
   refine l_nil ?_
   exact q_round (i + 1, O, ao, co) (by exact ⟨by omega, by rw [rng_no (show s.xs[i]? = some x24 from hx24) (by first | (refine .inl ?_; show slt x24.f_key f = true; simp_all; done) | (refine .inr (.inl ?_); rw [← e35]; assumption) | (refine .inr (.inr ?_); rw [← hO]; omega)), ← hO]⟩) (by (try dsimp only); omega) ⟨(by first | rfl | exact vint (by omega)), (by first | rfl | exact vint (by omega)), (by first | rfl | exact vint (by omega)), (by first | rfl | exact vint (by omega)), (by first | rfl | exact vint (by omega)), trivial⟩ (fun w S => S)
 · -- h1F
  have h1b := h1
  try simp only [decide_eq_false_iff_not, Int.not_lt, Int.not_le] at h1
  refine c_exit ?_
  refine q_pass_exit ?_
  refine q_pass_exit ?_
  refine q_hit ?_
  refine q_then ?_
  refine c_seq ?_
  refine c_region ?_
  refine o_move rfl rfl ?_
  refine o_assign rfl rfl ?_
  refine l_nil ?_
  refine q_then ?_
  refine c_ret ?_
  have hfin : O = (rngI f mo s.xs) := by rw [hO, List.take_of_length_le (by omega)]
  refine q_conv (fun w S => S.perm p3) ?_
  refine q_conv (fun w S => S.perm p3) ?_
  refine q_conv (fun w S => S.perm p3) ?_
  refine q_conv (L' := RfR m s :: _) (fun w S => Sat.obj_mk ⟨a_1, c_1⟩ ok_1 S) ?_
  refine q_conv (fun w S => S.perm p1) ?_
  exact f_ret (r_one rfl rfl) (⟨ao, co, (by rw [← hfin]), rfl⟩) (fun w S => by rw [← hfin]; exact S)
set_option maxHeartbeats 1000000 in
theorem prange_ {W : World} {F : List Res} {k : Nat} {s : SS} {f : ByteArray} {mo : Int} (hl : s.xs.length ≤ 1000000) : CS Try.prog 17 #[.pointer (some ⟨k, 0, none⟩), .string f, .int .i64 mo] W (StR k s :: F) (fun r L' => ∃ (ys : List ItA) (a' : Option Addr) (c' : Nat), ys.map proj = rangeM f mo s.M ∧ r = .slice a' ys.length c' ∧ L' = row e_Row.T e_Row.sz a' (ys).length c' (flat e_Row ys) :: vals ys :: StR k s :: F) := by
 refine f_door (l0 := [(0, .pointer (some ⟨k, 0, none⟩)), (1, .string f), (2, .int .i64 mo)]) Try.func17 Try.ntmps17 rfl rfl rfl ?_
 refine c_seq ?_
 refine c_region ?_
 refine o_box rfl rfl fun b5 => ?_
 refine o_alloc rfl ti43 fun b6 => ?_
 refine l_nil ?_
 refine q_then ?_
 refine c_seq ?_
 refine c_seq ?_
 refine c_conv (fun w S => S.perm p2) ?_
 refine c_obj ?_
 rintro t_1 ok_1
 refine c_conv (L' := blk k (.cells #[.int .i64 s.n, .pointer (some ⟨t_1, 0, none⟩)] 65 (0, 0)) :: treeR e_ItA eN99 103 105 ItA.f_key strlt t_1 s.xs :: vals s.xs :: _) (fun w S => S) ?_
 refine c_nilrow e_Row ?_
 refine c_conv (L' := vals ([] : List ItA) :: _) (fun w S => Sat.vals_nil S) ?_
 refine c_region ?_
 refine o_move rfl rfl ?_
 refine o_nil rfl rfl ?_
 refine o_fieldAddr (q := ⟨k, 1, none⟩) rfl rfl Try.underlying65 rfl ti62 rfl ?_
 refine o_load1 rfl rfl Try.underlying62 rfl (rd_mem 2 rfl rfl) ?_
 refine o_move rfl rfl ?_
 refine o_call rfl cal37 rfl (from_A (t := t_1) (k := f)) ?_
 rintro _ _ ⟨kt14, kk14, rfl, rfl⟩
 refine l_nil ?_
 refine q_then ?_
 refine c_block ?_
 refine c_conv (fun w S => S.perm p8) ?_
 refine c_conv (fun w S => S.perm p5) ?_
 refine c_conv (fun w S => S.perm p7) ?_
 refine c_conv (fun w S => S.perm p5) ?_
 refine c_conv (fun w S => S.perm p6) ?_
 refine c_conv (fun w S => S.perm p8) ?_
 refine c_conv (fun w S => S.perm p8) ?_
 refine c_conv (fun w S => S.perm p8) ?_
 refine c_conv (fun w S => S.perm p8) ?_
 refine c_rangeG (Li := [blk kt14 (.cells #[.pointer (some ⟨t_1, 0, none⟩)] 62 (0, 0)), blk kk14 (.cells #[.string f] 9 (0, 0)), treeR e_ItA eN99 103 105 ItA.f_key strlt t_1 s.xs]) (L0 := blk b6 (.cells #[.slice none (([] : List ItA)).length 0] 43 (0, 0)) :: row e_Row.T e_Row.sz none (([] : List ItA)).length 0 (flat e_Row ([] : List ItA)) :: vals ([] : List ItA) :: vals s.xs :: blk k (.cells #[.int .i64 s.n, .pointer (some ⟨t_1, 0, none⟩)] 65 (0, 0)) :: blk b5 (.cells #[.int .i64 mo] 3 (0, 0)) :: F) (fun pre L => ∃ O : List ItA, ∃ ao : Option Addr, ∃ co : Nat, (PassO mo pre O) ∧ L = blk b6 (.cells #[.slice ao (O).length co] 43 (0, 0)) :: row e_Row.T e_Row.sz ao (O).length co (flat e_Row O) :: vals O :: vals s.xs :: blk k (.cells #[.int .i64 s.n, .pointer (some ⟨t_1, 0, none⟩)] 65 (0, 0)) :: blk b5 (.cells #[.int .i64 mo] 3 (0, 0)) :: F) (fun c L => (c = (.exit 0) ∧ ∃ O2 : List ItA, ∃ ao2 : Option Addr, ∃ co2 : Nat, (O2.map proj = rangeM f mo s.M) ∧ L = blk b6 (.cells #[.slice ao2 (O2).length co2] 43 (0, 0)) :: row e_Row.T e_Row.sz ao2 (O2).length co2 (flat e_Row O2) :: vals O2 :: vals s.xs :: blk k (.cells #[.int .i64 s.n, .pointer (some ⟨t_1, 0, none⟩)] 65 (0, 0)) :: blk b5 (.cells #[.int .i64 mo] 3 (0, 0)) :: F)) rfl rfl cal58 rfl (fun _ => rfl) (fromIter_A) (fun w S => S) ⟨[], none, 0, PassO.start, rfl⟩ ?_ ?_ ?_
 · -- round
  rintro Lxg1 kg1 rg1 Dg1 pre x _ hrg1 ⟨O, ao, co, hps, rfl⟩ hpre
  try dsimp only at *
  have hxin : x ∈ s.xs := sel_in (pre_in hpre)
  have hvl : x.f_value.f_Value.xs.length ≤ 1000000 := (ok_1.ok x hxin).val
  have hpl := sel_len hpre
  have hol := hps.len
  refine c_conv (L' := blk kg1 (.loop rg1) :: Dg1 :: blk b6 (.cells #[.slice ao (O).length co] 43 (0, 0)) :: row e_Row.T e_Row.sz ao (O).length co (flat e_Row O) :: vals O :: vals s.xs :: blk k (.cells #[.int .i64 s.n, .pointer (some ⟨t_1, 0, none⟩)] 65 (0, 0)) :: blk b5 (.cells #[.int .i64 mo] 3 (0, 0)) :: (Lxg1 ++ F)) (fun w S => S.perm (rgP Lxg1 [blk b6 (.cells #[.slice ao (O).length co] 43 (0, 0)), row e_Row.T e_Row.sz ao (O).length co (flat e_Row O), vals O, vals s.xs, blk k (.cells #[.int .i64 s.n, .pointer (some ⟨t_1, 0, none⟩)] 65 (0, 0)), blk b5 (.cells #[.int .i64 mo] 3 (0, 0))] F)) ?_
  refine c_seq ?_
  refine c_region ?_
  refine o_assign rfl rfl ?_
  refine l_nil ?_
  refine q_then ?_
  refine c_region ?_
  refine o_alloc rfl ti36 fun b8 => ?_
  refine o_storen rfl rfl ti36 rfl rfl rfl rfl ?_
  refine l_nil ?_
  refine q_conv (fun w S => S.perm p8) ?_
  refine q_conv (fun w S => S.perm p8) ?_
  refine q_conv (fun w S => S.perm p8) ?_
  refine q_conv (fun w S => S.perm p8) ?_
  refine q_conv (fun w S => S.perm p8) ?_
  refine q_conv (fun w S => S.perm p8) ?_
  refine q_conv (fun w S => S.perm p8) ?_
  refine q_conv (fun w S => S.perm p7) ?_
  refine q_conv (fun w S => S.perm p8) ?_
  refine q_begin rfl hrg1 ?_
  refine c_block ?_
  refine c_seq ?_
  refine c_seq ?_
  refine c_region ?_
  refine o_load1 rfl rfl Try.underlying43 rfl (rd_mem 3 rfl rfl) ?_
  refine o_len rfl rfl Try.underlying43 ?_
  refine o_load1 rfl rfl Try.underlying3 rfl (rd_mem 8 rfl rfl) ?_
  refine o_bin rfl rfl rfl b_geq ?_
  refine l_nil ?_
  refine q_then ?_
  refine c_cond rfl (fun h2 => ?_) (fun h2 => ?_)
  · -- h2T
   have h2b := h2
   try simp only [decide_eq_true_eq] at h2
   refine c_exit ?_
   refine q_pass_exit ?_
   refine q_miss rfl ?_
   refine q_conv (fun w S => (S.perm p1).tail) ?_
   exact q_roundExit (.inr ⟨rfl, _, _, ⟨rfl, O, ao, co, by exact (hps.stop ((List.prefix_append _ _).trans hpre) (by omega)), rfl⟩, rfl⟩) (fun w S => S.perm (rgP Lxg1 [blk b6 (.cells #[.slice ao (O).length co] 43 (0, 0)), row e_Row.T e_Row.sz ao (O).length co (flat e_Row O), vals O, vals s.xs, blk k (.cells #[.int .i64 s.n, .pointer (some ⟨t_1, 0, none⟩)] 65 (0, 0)), blk b5 (.cells #[.int .i64 mo] 3 (0, 0))] F).symm)
  · -- h2F
   have h2b := h2
   try simp only [decide_eq_false_iff_not, Int.not_lt, Int.not_le] at h2
   refine c_skip ?_
   refine q_then ?_
   refine c_seq ?_
   refine c_region ?_
   refine o_fieldAddr (q := ⟨b8, 0, none⟩) rfl rfl Try.underlying36 rfl ti4 rfl ?_
   refine o_load1 rfl rfl Try.underlying4 rfl (rd_mem 1 rfl rfl) ?_
   refine l_nil ?_
   refine q_then ?_
   refine c_cond rfl (fun h3 => ?_) (fun h3 => ?_)
   · -- h3T
    have h3b := h3
    try simp only [decide_eq_true_eq, decide_eq_false_iff_not, Bool.not_eq_eq_eq_not, Bool.not_true, Bool.not_false, Bool.not_eq_true', Bool.not_eq_false', Int.not_lt, Int.not_le, Bool.or_eq_true, Bool.and_eq_true] at h3
    refine c_seq ?_
    refine c_region ?_
    refine o_fieldAddr (q := ⟨b8, 1, none⟩) rfl rfl Try.underlying36 rfl ti23 rfl ?_
    refine o_load1 rfl rfl Try.underlying23 rfl (rd_mem 1 rfl rfl) ?_
    refine o_call rfl cal30 rfl (clone8 (xs := x.f_value.f_Value.xs) (a := x.f_value.f_Value.a) (c := x.f_value.f_Value.c) (rds_vals 6 rfl hxin) (by show _ * 1 ≤ _; omega) (by omega)) ?_
    rintro _ _ ⟨a25, c25, rfl, rfl⟩
    refine o_fieldAddr (q := ⟨b8, 1, none⟩) rfl rfl Try.underlying36 rfl ti23 rfl ?_
    refine l_f2 ?_
    refine o_store1 rfl rfl rfl ti23 rfl rfl ?_
    refine l_nil ?_
    refine q_then ?_
    refine c_region ?_
    refine o_load1 rfl rfl Try.underlying43 rfl (rd_mem 4 rfl rfl) ?_
    refine o_move rfl rfl ?_
    refine o_loadn (vs := [_, _, _, _]) rfl rfl Try.underlying36 rfl ti36 (rdn_lit 0 rfl rfl) ?_
    refine o_build rfl sp49 ti49 rfl ((fill_cons (cells' := [.string x.f_key, .bool false, .slice none 0 0, .int .i64 0, .int .u64 0]) rfl rfl rfl rfl (fill_cons (cells' := [.string x.f_key, .bool x.f_value.f_Has, .slice a25 (x.f_value.f_Value.xs).length c25, .int .i64 x.f_value.f_Home, .int .u64 x.f_value.f_Count]) rfl rfl rfl rfl fill_nil))) ?_
    refine o_lit e_Row_ok rfl Try.underlying43 rfl rfl rfl (lit_ok rfl) [(⟨x.f_key, ⟨x.f_value.f_Has, ⟨a25, x.f_value.f_Value.xs, c25⟩, x.f_value.f_Home, x.f_value.f_Count⟩⟩ : ItA)] rfl rfl fun a31 => ?_
    refine l_f6 ?_
    refine o_append e_Row_ok rfl rfl rfl Try.underlying43 (rds_own e_Row_ok 1 rfl) (by show (_ + _) * 64 ≤ _; (try simp only [List.length_append, List.length_cons, List.length_nil]); omega) (by (try simp only [List.length_append, List.length_cons, List.length_nil]); omega) fun a32 c32 => ?_
    refine l_f1 ?_
    refine l_drop ?_
    refine l_f5 ?_
    refine o_store1 rfl rfl rfl ti43 rfl rfl ?_
    refine l_nil ?_
    refine q_block ?_
    refine q_conv (fun w S => S.perm p9) ?_
    refine q_conv (fun w S => S.perm p9) ?_
    refine q_conv (fun w S => S.perm p9) ?_
    refine q_conv (fun w S => S.perm p8) ?_
    refine q_conv (fun w S => S.perm p8) ?_
    refine q_conv (fun w S => S.perm p7) ?_
    refine q_conv (fun w S => S.perm p7) ?_
    refine q_conv (fun w S => S.perm p7) ?_
    refine q_conv (fun w S => S.perm p9) ?_
    refine q_conv (fun w S => S.perm p9) ?_
    refine q_conv (L' := vals (O ++ [(⟨x.f_key, ⟨x.f_value.f_Has, ⟨a25, x.f_value.f_Value.xs, c25⟩, x.f_value.f_Home, x.f_value.f_Count⟩⟩ : ItA)]) :: _) (fun w S => Sat.vals_app (x := (⟨x.f_key, ⟨x.f_value.f_Has, ⟨a25, x.f_value.f_Value.xs, c25⟩, x.f_value.f_Home, x.f_value.f_Count⟩⟩ : ItA)) S) ?_
    refine q_conv (fun w S => (S.perm p3).tail) ?_
    refine q_conv (fun w S => S.perm p7) ?_
    refine q_conv (fun w S => S.perm p7) ?_
    refine q_conv (fun w S => S.perm p7) ?_
    refine q_conv (fun w S => S.perm p3) ?_
    refine q_conv (fun w S => S.perm p5) ?_
    refine q_conv (fun w S => S.perm p5) ?_
    refine q_conv (fun w S => S.perm p7) ?_
    refine q_conv (fun w S => S.perm p7) ?_
    exact q_roundOn (.inl ⟨rfl, _, ⟨O ++ [(⟨x.f_key, ⟨x.f_value.f_Has, ⟨a25, x.f_value.f_Value.xs, c25⟩, x.f_value.f_Home, x.f_value.f_Count⟩⟩ : ItA)], a32, c32, by exact (hps.yes (by assumption) (by omega) rfl), rfl⟩, rfl⟩) (fun w S => S.perm (rgP Lxg1 [blk b6 (.cells #[.slice a32 (O ++ [(⟨x.f_key, ⟨x.f_value.f_Has, ⟨a25, x.f_value.f_Value.xs, c25⟩, x.f_value.f_Home, x.f_value.f_Count⟩⟩ : ItA)]).length c32] 43 (0, 0)), row e_Row.T e_Row.sz a32 (O ++ [(⟨x.f_key, ⟨x.f_value.f_Has, ⟨a25, x.f_value.f_Value.xs, c25⟩, x.f_value.f_Home, x.f_value.f_Count⟩⟩ : ItA)]).length c32 (flat e_Row (O ++ [(⟨x.f_key, ⟨x.f_value.f_Has, ⟨a25, x.f_value.f_Value.xs, c25⟩, x.f_value.f_Home, x.f_value.f_Count⟩⟩ : ItA)])), vals (O ++ [(⟨x.f_key, ⟨x.f_value.f_Has, ⟨a25, x.f_value.f_Value.xs, c25⟩, x.f_value.f_Home, x.f_value.f_Count⟩⟩ : ItA)]), vals s.xs, blk k (.cells #[.int .i64 s.n, .pointer (some ⟨t_1, 0, none⟩)] 65 (0, 0)), blk b5 (.cells #[.int .i64 mo] 3 (0, 0))] F).symm)
   · -- h3F
    have h3b := h3
    try simp only [decide_eq_true_eq, decide_eq_false_iff_not, Bool.not_eq_eq_eq_not, Bool.not_true, Bool.not_false, Bool.not_eq_true', Bool.not_eq_false', Int.not_lt, Int.not_le, Bool.or_eq_true, Bool.and_eq_true] at h3
    refine c_skip ?_
    refine q_block ?_
    refine q_conv (fun w S => (S.perm p1).tail) ?_
    exact q_roundOn (.inl ⟨rfl, _, ⟨O, ao, co, by exact (hps.no (by assumption)), rfl⟩, rfl⟩) (fun w S => S.perm (rgP Lxg1 [blk b6 (.cells #[.slice ao (O).length co] 43 (0, 0)), row e_Row.T e_Row.sz ao (O).length co (flat e_Row O), vals O, vals s.xs, blk k (.cells #[.int .i64 s.n, .pointer (some ⟨t_1, 0, none⟩)] 65 (0, 0)), blk b5 (.cells #[.int .i64 mo] 3 (0, 0))] F).symm)
 · -- all have come
  rintro dg1 _ ⟨O, ao, co, hps, rfl⟩
  try dsimp only at *
  refine q_block ?_
  refine q_then ?_
  refine c_seq ?_
  refine c_region ?_
  refine o_load1 rfl rfl Try.underlying43 rfl (rd_mem 4 rfl rfl) ?_
  refine l_f4 ?_
  refine o_store1 rfl rfl rfl ti43 rfl rfl ?_
  refine l_nil ?_
  refine q_then ?_
  refine c_ret ?_
  refine q_conv (fun w S => S.perm p9) ?_
  refine q_conv (fun w S => S.perm p7) ?_
  refine q_conv (fun w S => S.perm p7) ?_
  refine q_conv (fun w S => S.perm p6) ?_
  refine q_conv (fun w S => S.perm p6) ?_
  refine q_conv (fun w S => S.perm p6) ?_
  refine q_conv (fun w S => S.perm p6) ?_
  refine q_conv (fun w S => S.perm p8) ?_
  refine q_conv (fun w S => S.perm p8) ?_
  refine q_conv (fun w S => S.perm p9) ?_
  refine q_conv (L' := StR k s :: _) (fun w S => Sat.obj_mk t_1 ok_1 S) ?_
  refine q_conv (fun w S => S.perm p7) ?_
  refine q_conv (fun w S => S.perm p7) ?_
  refine q_conv (fun w S => S.perm p7) ?_
  refine q_conv (fun w S => S.perm p7) ?_
  refine q_conv (fun w S => S.perm p7) ?_
  refine q_conv (fun w S => S.perm p6) ?_
  refine q_conv (fun w S => S.perm p6) ?_
  refine q_conv (fun w S => S.perm p7) ?_
  refine f_retMq [dg1] (.inl rfl) rfl (fun w S => S) (rs_1 rfl (rs_cell rfl Try.underlying43 rfl (rd_mem 1 rfl rfl))) (fun w S => ?_)
  replace S := (S.perm p1).tail
  replace S := (S.perm p1).tail
  replace S := (S.perm p1).tail
  replace S := (S.perm p3).tail
  replace S := S.perm p2
  replace S := S.perm p2
  exact ⟨_, ⟨O, ao, co, hps.done, rfl, rfl⟩, (fun w S => S) w S⟩
 · -- a round has left
  rintro dg1 cg1 _ (⟨rfl, O2, ao2, co2, hj, rfl⟩)
  · -- 0
   try dsimp only at *
   refine c_exit ?_
   refine q_hit ?_
   refine q_then ?_
   refine c_seq ?_
   refine c_region ?_
   refine o_load1 rfl rfl Try.underlying43 rfl (rd_mem 4 rfl rfl) ?_
   refine l_f4 ?_
   refine o_store1 rfl rfl rfl ti43 rfl rfl ?_
   refine l_nil ?_
   refine q_then ?_
   refine c_ret ?_
   refine q_conv (fun w S => S.perm p9) ?_
   refine q_conv (fun w S => S.perm p7) ?_
   refine q_conv (fun w S => S.perm p7) ?_
   refine q_conv (fun w S => S.perm p6) ?_
   refine q_conv (fun w S => S.perm p6) ?_
   refine q_conv (fun w S => S.perm p6) ?_
   refine q_conv (fun w S => S.perm p6) ?_
   refine q_conv (fun w S => S.perm p8) ?_
   refine q_conv (fun w S => S.perm p8) ?_
   refine q_conv (fun w S => S.perm p9) ?_
   refine q_conv (L' := StR k s :: _) (fun w S => Sat.obj_mk t_1 ok_1 S) ?_
   refine q_conv (fun w S => S.perm p7) ?_
   refine q_conv (fun w S => S.perm p7) ?_
   refine q_conv (fun w S => S.perm p7) ?_
   refine q_conv (fun w S => S.perm p7) ?_
   refine q_conv (fun w S => S.perm p7) ?_
   refine q_conv (fun w S => S.perm p6) ?_
   refine q_conv (fun w S => S.perm p6) ?_
   refine q_conv (fun w S => S.perm p7) ?_
   refine f_retMq [dg1] (.inl rfl) rfl (fun w S => S) (rs_1 rfl (rs_cell rfl Try.underlying43 rfl (rd_mem 1 rfl rfl))) (fun w S => ?_)
   replace S := (S.perm p1).tail
   replace S := (S.perm p1).tail
   replace S := (S.perm p1).tail
   replace S := (S.perm p3).tail
   replace S := S.perm p2
   replace S := S.perm p2
   exact ⟨_, ⟨O2, ao2, co2, hj, rfl, rfl⟩, (fun w S => S) w S⟩
set_option maxHeartbeats 1000000 in
theorem rows6_ {W : World} {F : List Res} {k : Nat} {s : SS} (hl : s.xs.length ≤ 1000000) : CS Try.prog 22 #[.pointer (some ⟨k, 0, none⟩)] W (StR k s :: F) (fun r L' => ∃ (ys : List ItA) (a' : Option Addr) (c' : Nat), ys.map proj = s.M ∧ r = .slice a' ys.length c' ∧ L' = row e_Row.T e_Row.sz a' (ys).length c' (flat e_Row ys) :: vals ys :: StR k s :: F) := by
 refine f_door (l0 := [(0, .pointer (some ⟨k, 0, none⟩))]) Try.func22 Try.ntmps22 rfl rfl rfl ?_
 refine c_seq ?_
 refine c_region ?_
 refine o_alloc rfl ti43 fun b2 => ?_
 refine l_nil ?_
 refine q_then ?_
 refine c_seq ?_
 refine c_seq ?_
 refine c_conv (fun w S => S.perm p1) ?_
 refine c_obj ?_
 rintro t_1 ok_1
 refine c_conv (L' := blk k (.cells #[.int .i64 s.n, .pointer (some ⟨t_1, 0, none⟩)] 65 (0, 0)) :: treeR e_ItA eN99 103 105 ItA.f_key strlt t_1 s.xs :: vals s.xs :: _) (fun w S => S) ?_
 refine c_nilrow e_Row ?_
 refine c_conv (L' := vals ([] : List ItA) :: _) (fun w S => Sat.vals_nil S) ?_
 refine c_region ?_
 refine o_move rfl rfl ?_
 refine o_nil rfl rfl ?_
 refine o_fieldAddr (q := ⟨k, 1, none⟩) rfl rfl Try.underlying65 rfl ti62 rfl ?_
 refine o_load1 rfl rfl Try.underlying62 rfl (rd_mem 2 rfl rfl) ?_
 refine o_call rfl cal38 rfl (all_A (t := t_1)) ?_
 rintro _ _ ⟨kt9, rfl, rfl⟩
 refine l_nil ?_
 refine q_then ?_
 refine c_block ?_
 refine c_conv (fun w S => S.perm p3) ?_
 refine c_conv (fun w S => S.perm p5) ?_
 refine c_conv (fun w S => S.perm p3) ?_
 refine c_conv (fun w S => S.perm p4) ?_
 refine c_conv (fun w S => S.perm p6) ?_
 refine c_conv (fun w S => S.perm p6) ?_
 refine c_conv (fun w S => S.perm p6) ?_
 refine c_rangeG (Li := [blk kt9 (.cells #[.pointer (some ⟨t_1, 0, none⟩)] 62 (0, 0)), treeR e_ItA eN99 103 105 ItA.f_key strlt t_1 s.xs]) (L0 := blk b2 (.cells #[.slice none (([] : List ItA)).length 0] 43 (0, 0)) :: row e_Row.T e_Row.sz none (([] : List ItA)).length 0 (flat e_Row ([] : List ItA)) :: vals ([] : List ItA) :: vals s.xs :: blk k (.cells #[.int .i64 s.n, .pointer (some ⟨t_1, 0, none⟩)] 65 (0, 0)) :: F) (fun pre L => ∃ O : List ItA, ∃ ao : Option Addr, ∃ co : Nat, (O.map proj = pre.map proj) ∧ L = blk b2 (.cells #[.slice ao (O).length co] 43 (0, 0)) :: row e_Row.T e_Row.sz ao (O).length co (flat e_Row O) :: vals O :: vals s.xs :: blk k (.cells #[.int .i64 s.n, .pointer (some ⟨t_1, 0, none⟩)] 65 (0, 0)) :: F) (fun c L => False) rfl rfl cal60 rfl (fun _ => rfl) (allIter_A) (fun w S => S) ⟨[], none, 0, rfl, rfl⟩ ?_ ?_ ?_
 · -- round
  rintro Lxg1 kg1 rg1 Dg1 pre x _ hrg1 ⟨O, ao, co, hps, rfl⟩ hpre
  try dsimp only at *
  have hxin : x ∈ s.xs := pre_in hpre
  have hvl : x.f_value.f_Value.xs.length ≤ 1000000 := (ok_1.ok x hxin).val
  have hpl := pre_len hpre
  have hol : O.length = pre.length := by have h9 := congrArg List.length hps; rw [List.length_map, List.length_map] at h9; exact h9
  refine c_conv (L' := blk kg1 (.loop rg1) :: Dg1 :: blk b2 (.cells #[.slice ao (O).length co] 43 (0, 0)) :: row e_Row.T e_Row.sz ao (O).length co (flat e_Row O) :: vals O :: vals s.xs :: blk k (.cells #[.int .i64 s.n, .pointer (some ⟨t_1, 0, none⟩)] 65 (0, 0)) :: (Lxg1 ++ F)) (fun w S => S.perm (rgP Lxg1 [blk b2 (.cells #[.slice ao (O).length co] 43 (0, 0)), row e_Row.T e_Row.sz ao (O).length co (flat e_Row O), vals O, vals s.xs, blk k (.cells #[.int .i64 s.n, .pointer (some ⟨t_1, 0, none⟩)] 65 (0, 0))] F)) ?_
  refine c_seq ?_
  refine c_region ?_
  refine o_assign rfl rfl ?_
  refine l_nil ?_
  refine q_then ?_
  refine c_region ?_
  refine o_alloc rfl ti36 fun b4 => ?_
  refine o_storen rfl rfl ti36 rfl rfl rfl rfl ?_
  refine l_nil ?_
  refine q_conv (fun w S => S.perm p7) ?_
  refine q_conv (fun w S => S.perm p7) ?_
  refine q_conv (fun w S => S.perm p7) ?_
  refine q_conv (fun w S => S.perm p7) ?_
  refine q_conv (fun w S => S.perm p7) ?_
  refine q_conv (fun w S => S.perm p7) ?_
  refine q_conv (fun w S => S.perm p6) ?_
  refine q_conv (fun w S => S.perm p7) ?_
  refine q_begin rfl hrg1 ?_
  refine c_block ?_
  refine c_seq ?_
  refine c_region ?_
  refine o_fieldAddr (q := ⟨b4, 1, none⟩) rfl rfl Try.underlying36 rfl ti23 rfl ?_
  refine o_load1 rfl rfl Try.underlying23 rfl (rd_mem 1 rfl rfl) ?_
  refine o_call rfl cal30 rfl (clone8 (xs := x.f_value.f_Value.xs) (a := x.f_value.f_Value.a) (c := x.f_value.f_Value.c) (rds_vals 6 rfl hxin) (by show _ * 1 ≤ _; omega) (by omega)) ?_
  rintro _ _ ⟨a14, c14, rfl, rfl⟩
  refine o_fieldAddr (q := ⟨b4, 1, none⟩) rfl rfl Try.underlying36 rfl ti23 rfl ?_
  refine l_f2 ?_
  refine o_store1 rfl rfl rfl ti23 rfl rfl ?_
  refine l_nil ?_
  refine q_then ?_
  refine c_region ?_
  refine o_load1 rfl rfl Try.underlying43 rfl (rd_mem 4 rfl rfl) ?_
  refine o_move rfl rfl ?_
  refine o_loadn (vs := [_, _, _, _]) rfl rfl Try.underlying36 rfl ti36 (rdn_lit 0 rfl rfl) ?_
  refine o_build rfl sp49 ti49 rfl ((fill_cons (cells' := [.string x.f_key, .bool false, .slice none 0 0, .int .i64 0, .int .u64 0]) rfl rfl rfl rfl (fill_cons (cells' := [.string x.f_key, .bool x.f_value.f_Has, .slice a14 (x.f_value.f_Value.xs).length c14, .int .i64 x.f_value.f_Home, .int .u64 x.f_value.f_Count]) rfl rfl rfl rfl fill_nil))) ?_
  refine o_lit e_Row_ok rfl Try.underlying43 rfl rfl rfl (lit_ok rfl) [(⟨x.f_key, ⟨x.f_value.f_Has, ⟨a14, x.f_value.f_Value.xs, c14⟩, x.f_value.f_Home, x.f_value.f_Count⟩⟩ : ItA)] rfl rfl fun a20 => ?_
  refine l_f6 ?_
  refine o_append e_Row_ok rfl rfl rfl Try.underlying43 (rds_own e_Row_ok 1 rfl) (by show (_ + _) * 64 ≤ _; (try simp only [List.length_append, List.length_cons, List.length_nil]); omega) (by (try simp only [List.length_append, List.length_cons, List.length_nil]); omega) fun a21 c21 => ?_
  refine l_f1 ?_
  refine l_drop ?_
  refine l_f5 ?_
  refine o_store1 rfl rfl rfl ti43 rfl rfl ?_
  refine l_nil ?_
  refine q_block ?_
  refine q_conv (fun w S => S.perm p8) ?_
  refine q_conv (fun w S => S.perm p8) ?_
  refine q_conv (fun w S => S.perm p7) ?_
  refine q_conv (fun w S => S.perm p7) ?_
  refine q_conv (fun w S => S.perm p6) ?_
  refine q_conv (fun w S => S.perm p6) ?_
  refine q_conv (fun w S => S.perm p6) ?_
  refine q_conv (fun w S => S.perm p8) ?_
  refine q_conv (fun w S => S.perm p8) ?_
  refine q_conv (L' := vals (O ++ [(⟨x.f_key, ⟨x.f_value.f_Has, ⟨a14, x.f_value.f_Value.xs, c14⟩, x.f_value.f_Home, x.f_value.f_Count⟩⟩ : ItA)]) :: _) (fun w S => Sat.vals_app (x := (⟨x.f_key, ⟨x.f_value.f_Has, ⟨a14, x.f_value.f_Value.xs, c14⟩, x.f_value.f_Home, x.f_value.f_Count⟩⟩ : ItA)) S) ?_
  refine q_conv (fun w S => (S.perm p3).tail) ?_
  refine q_conv (fun w S => S.perm p6) ?_
  refine q_conv (fun w S => S.perm p6) ?_
  refine q_conv (fun w S => S.perm p2) ?_
  refine q_conv (fun w S => S.perm p4) ?_
  refine q_conv (fun w S => S.perm p4) ?_
  refine q_conv (fun w S => S.perm p6) ?_
  refine q_conv (fun w S => S.perm p6) ?_
  exact q_roundOn (.inl ⟨rfl, _, ⟨O ++ [(⟨x.f_key, ⟨x.f_value.f_Has, ⟨a14, x.f_value.f_Value.xs, c14⟩, x.f_value.f_Home, x.f_value.f_Count⟩⟩ : ItA)], a21, c21, by (rw [List.map_append, List.map_append, hps]; rfl), rfl⟩, rfl⟩) (fun w S => S.perm (rgP Lxg1 [blk b2 (.cells #[.slice a21 (O ++ [(⟨x.f_key, ⟨x.f_value.f_Has, ⟨a14, x.f_value.f_Value.xs, c14⟩, x.f_value.f_Home, x.f_value.f_Count⟩⟩ : ItA)]).length c21] 43 (0, 0)), row e_Row.T e_Row.sz a21 (O ++ [(⟨x.f_key, ⟨x.f_value.f_Has, ⟨a14, x.f_value.f_Value.xs, c14⟩, x.f_value.f_Home, x.f_value.f_Count⟩⟩ : ItA)]).length c21 (flat e_Row (O ++ [(⟨x.f_key, ⟨x.f_value.f_Has, ⟨a14, x.f_value.f_Value.xs, c14⟩, x.f_value.f_Home, x.f_value.f_Count⟩⟩ : ItA)])), vals (O ++ [(⟨x.f_key, ⟨x.f_value.f_Has, ⟨a14, x.f_value.f_Value.xs, c14⟩, x.f_value.f_Home, x.f_value.f_Count⟩⟩ : ItA)]), vals s.xs, blk k (.cells #[.int .i64 s.n, .pointer (some ⟨t_1, 0, none⟩)] 65 (0, 0))] F).symm)
 · -- all have come
  rintro dg1 _ ⟨O, ao, co, hps, rfl⟩
  try dsimp only at *
  refine q_block ?_
  refine q_then ?_
  refine c_seq ?_
  refine c_region ?_
  refine o_load1 rfl rfl Try.underlying43 rfl (rd_mem 3 rfl rfl) ?_
  refine l_f3 ?_
  refine o_store1 rfl rfl rfl ti43 rfl rfl ?_
  refine l_nil ?_
  refine q_then ?_
  refine c_ret ?_
  refine q_conv (fun w S => S.perm p5) ?_
  refine q_conv (fun w S => S.perm p5) ?_
  refine q_conv (fun w S => S.perm p4) ?_
  refine q_conv (fun w S => S.perm p4) ?_
  refine q_conv (fun w S => S.perm p4) ?_
  refine q_conv (fun w S => S.perm p6) ?_
  refine q_conv (fun w S => S.perm p6) ?_
  refine q_conv (fun w S => S.perm p7) ?_
  refine q_conv (L' := StR k s :: _) (fun w S => Sat.obj_mk t_1 ok_1 S) ?_
  refine q_conv (fun w S => S.perm p5) ?_
  refine q_conv (fun w S => S.perm p5) ?_
  refine q_conv (fun w S => S.perm p5) ?_
  refine q_conv (fun w S => S.perm p4) ?_
  refine q_conv (fun w S => S.perm p4) ?_
  refine q_conv (fun w S => S.perm p5) ?_
  refine f_retMq [dg1] (.inl rfl) rfl (fun w S => S) (rs_1 rfl (rs_cell rfl Try.underlying43 rfl (rd_mem 1 rfl rfl))) (fun w S => ?_)
  replace S := (S.perm p1).tail
  replace S := (S.perm p1).tail
  replace S := S.perm p2
  replace S := S.perm p2
  exact ⟨_, ⟨O, ao, co, hps, rfl, rfl⟩, (fun w S => S) w S⟩
 · -- a round has left
  exact fun _ _ _ h => h.elim
end
section
set_option linter.unusedVariables false
set_option linter.unusedSimpArgs false
set_option maxRecDepth 10000
open Go.RowKit Classical
theorem spoil_ {W : World} {F : List Res} {ys : List ItA} {a : Option Addr} {c : Nat} (hl : ys.length ≤ 1000000) (hv : ∀ y ∈ ys, y.f_value.f_Value.xs.length ≤ 1000000) : CS Try.prog 24 #[.slice a (ys).length c] W (row e_Row.T e_Row.sz a (ys).length c (flat e_Row ys) :: vals ys :: F) (fun _ L' => L' = F) := by
 refine f_door (l0 := [(0, .slice a (ys).length c)]) Try.func24 Try.ntmps24 rfl rfl rfl ?_
 refine c_seq ?_
 refine c_region ?_
 refine o_move rfl rfl ?_
 refine o_len rfl rfl Try.underlying43 ?_
 refine o_move rfl rfl ?_
 refine l_nil ?_
 refine q_then ?_
 refine c_block ?_
 refine c_loop (α := Nat × (List ItA)) (fun z => [(0, .slice a (z.2).length c), (5, .int .i64 ((ys).length : Int)), (6, .int .i64 (z.1 : Int))]) (fun z => row e_Row.T e_Row.sz a (z.2).length c (flat e_Row z.2) :: vals (ys.drop z.1) :: F) (fun z => z.1 ≤ ys.length ∧ z.2.length = ys.length ∧ z.2.drop z.1 = ys.drop z.1) (fun z => ys.length - z.1) (0, ys) (by exact ⟨Nat.zero_le _, rfl, rfl⟩) ⟨rfl, (by first | rfl | exact vint (by omega)), (by first | rfl | exact vint (by omega)), trivial⟩ (fun w S => S) ?_
 rintro ⟨i, zs⟩ ⟨hi, hzl, hdr⟩
 try dsimp only at *
 refine c_seq ?_
 refine c_region ?_
 refine o_bin rfl rfl rfl b_lss ?_
 refine l_nil ?_
 refine q_then ?_
 refine c_seq ?_
 refine c_cond rfl (fun h1 => ?_) (fun h1 => ?_)
 · -- h1T
  have h1b := h1
  try simp only [decide_eq_true_eq] at h1
  refine c_skip ?_
  refine q_then ?_
  refine c_seq ?_
  refine c_block ?_
  refine c_seq ?_
  refine c_region ?_
  refine o_move rfl rfl ?_
  refine o_assign rfl rfl ?_
  refine l_nil ?_
  refine q_then ?_
  refine c_seq ?_
  refine c_seq ?_
  obtain ⟨y, hy⟩ : ∃ y, ys[i]? = some y := ⟨_, List.getElem?_eq_getElem (by omega)⟩
  have hzy : zs[i]? = some y := by have h9 := congrArg (fun l : List ItA => l[0]?) hdr; simp only [List.getElem?_drop, Nat.add_zero] at h9; rw [h9]; exact hy
  have hdy : ys.drop i = y :: ys.drop (i + 1) := drop_at hy
  refine c_conv (fun w S => S.perm p1) ?_
  refine c_conv (L' := row e8.T e8.sz y.f_value.f_Value.a (y.f_value.f_Value.xs).length y.f_value.f_Value.c (flat e8 y.f_value.f_Value.xs) :: vals (ys.drop (i + 1)) :: _) (fun w S => by rw [hdy] at S; exact Sat.vals_cons S) ?_
  have hyl := hv y (List.mem_of_getElem? hy)
  refine c_region ?_
  refine o_move rfl rfl ?_
  refine o_move rfl rfl ?_
  refine o_index e_Row_ok rfl rfl rfl Try.underlying43 (by omega) (by omega) (rds_own e_Row_ok 2 rfl) fun ad11 ead11 => ?_
  obtain ⟨x11, hx11⟩ : ∃ x, (zs)[((i : Int)).toNat]? = some x := ⟨_, List.getElem?_eq_getElem (by omega)⟩
  refine o_fieldAddr rfl rfl Try.underlying49 rfl ti36 (Addr.add_add' _ _ _) ?_
  refine o_fieldAddr rfl rfl Try.underlying36 rfl ti23 (show (Addr.add _ (_ + 1)).add 1 = Addr.add _ (_ + 2) from by rw [Addr.add_add', Nat.add_assoc]) ?_
  refine o_load1 rfl rfl Try.underlying23 rfl (rd_sl e_Row_ok ead11 (rds_own e_Row_ok 2 rfl) hx11 rfl) ?_
  have ex11 : x11 = y := by have h9 := hzy; rw [show zs[i]? = some x11 from hx11] at h9; exact Option.some.inj h9
  refine l_eq (t := 14) (v' := .slice y.f_value.f_Value.a (y.f_value.f_Value.xs).length y.f_value.f_Value.c) rfl (by (rw [ex11]; rfl)) ?_
  refine o_len rfl rfl Try.underlying23 ?_
  refine o_move rfl rfl ?_
  refine l_nil ?_
  refine q_then ?_
  refine c_block ?_
  refine c_loop (α := Nat × (List UInt8)) (fun z => [(0, .slice a (zs).length c), (2, .int .i64 (i : Int)), (5, .int .i64 ((ys).length : Int)), (6, .int .i64 (i : Int)), (15, .int .i64 ((y.f_value.f_Value.xs).length : Int)), (16, .int .i64 (z.1 : Int))]) (fun z => row e8.T e8.sz y.f_value.f_Value.a (z.2).length y.f_value.f_Value.c (flat e8 z.2) :: vals (ys.drop (i + 1)) :: row e_Row.T e_Row.sz a (zs).length c (flat e_Row zs) :: F) (fun z => z.1 ≤ y.f_value.f_Value.xs.length ∧ z.2.length = y.f_value.f_Value.xs.length) (fun z => y.f_value.f_Value.xs.length - z.1) (0, y.f_value.f_Value.xs) (by exact ⟨Nat.zero_le _, rfl⟩) ⟨(by first | rfl | exact vint (by omega)), (by first | rfl | exact vint (by omega)), (by first | rfl | exact vint (by omega)), (by first | rfl | exact vint (by omega)), (by first | rfl | exact vint (by omega)), (by first | rfl | exact vint (by omega)), trivial⟩ (fun w S => S) ?_
  rintro ⟨q, B⟩ ⟨hq, hB⟩
  try dsimp only at *
  refine c_seq ?_
  refine c_region ?_
  refine o_bin rfl rfl rfl b_lss ?_
  refine l_nil ?_
  refine q_then ?_
  refine c_seq ?_
  refine c_cond rfl (fun h2 => ?_) (fun h2 => ?_)
  · -- h2T
   have h2b := h2
   try simp only [decide_eq_true_eq] at h2
   refine c_skip ?_
   refine q_then ?_
   refine c_seq ?_
   refine c_block ?_
   refine c_seq ?_
   refine c_region ?_
   refine o_move rfl rfl ?_
   refine o_assign rfl rfl ?_
   refine l_nil ?_
   refine q_then ?_
   refine c_region ?_
   refine o_move rfl rfl ?_
   refine o_move rfl rfl ?_
   refine o_index e_Row_ok rfl rfl rfl Try.underlying43 (by omega) (by omega) (rds_own e_Row_ok 2 rfl) fun ad21 ead21 => ?_
   obtain ⟨x21, hx21⟩ : ∃ x, (zs)[((i : Int)).toNat]? = some x := ⟨_, List.getElem?_eq_getElem (by omega)⟩
   refine o_fieldAddr rfl rfl Try.underlying49 rfl ti36 (Addr.add_add' _ _ _) ?_
   refine o_fieldAddr rfl rfl Try.underlying36 rfl ti23 (show (Addr.add _ (_ + 1)).add 1 = Addr.add _ (_ + 2) from by rw [Addr.add_add', Nat.add_assoc]) ?_
   refine o_load1 rfl rfl Try.underlying23 rfl (rd_sl e_Row_ok ead21 (rds_own e_Row_ok 2 rfl) hx21 rfl) ?_
   have ex21 : x21 = y := by have h9 := hzy; rw [show zs[i]? = some x21 from hx21] at h9; exact Option.some.inj h9
   refine l_eq (t := 24) (v' := .slice y.f_value.f_Value.a (B).length y.f_value.f_Value.c) rfl (by (rw [ex21, hB]; rfl)) ?_
   refine o_move rfl rfl ?_
   refine o_index e8_ok rfl rfl rfl Try.underlying23 (by omega) (by omega) (rds_own e8_ok 0 rfl) fun ad26 ead26 => ?_
   obtain ⟨x26, hx26⟩ : ∃ x, (B)[((q : Int)).toNat]? = some x := ⟨_, List.getElem?_eq_getElem (by omega)⟩
   refine o_storeRow0 (x1 := (238 : UInt8)) e8_ok ead26 rfl rfl rfl ti5 hx26 rfl ?_
   refine l_nil ?_
   refine q_block ?_
   refine q_then ?_
   refine c_region ?_
   refine o_bin rfl rfl rfl (b_add (wrap_i64 (by omega) (by omega))) ?_
   refine o_move rfl rfl ?_
   refine l_nil ?_
   exact q_round (q + 1, (B).set ((q : Int)).toNat (238 : UInt8)) (by exact ⟨by omega, by rw [List.length_set]; exact hB⟩) (by (try dsimp only); omega) ⟨(by first | rfl | exact vint (by omega)), (by first | rfl | exact vint (by omega)), (by first | rfl | exact vint (by omega)), (by first | rfl | exact vint (by omega)), (by first | rfl | exact vint (by omega)), (by first | rfl | exact vint (by omega)), trivial⟩ (fun w S => S)
  · -- h2F
   have h2b := h2
   try simp only [decide_eq_false_iff_not, Int.not_lt, Int.not_le] at h2
   refine c_exit ?_
   refine q_pass_exit ?_
   refine q_pass_exit ?_
   refine q_hit ?_
   refine q_then ?_
   refine c_region ?_
   refine o_move rfl rfl ?_
   refine o_move rfl rfl ?_
   refine o_build rfl sp49 ti49 rfl rfl ?_
   refine o_index e_Row_ok rfl rfl rfl Try.underlying43 (by omega) (by omega) (rds_own e_Row_ok 2 rfl) fun ad31 ead31 => ?_
   obtain ⟨x31, hx31⟩ : ∃ x, (zs)[((i : Int)).toNat]? = some x := ⟨_, List.getElem?_eq_getElem (by omega)⟩
   refine l_f2 ?_
   refine o_storeRowAll e_Row_ok ead31 rfl rfl ti49 (⟨ByteArray.empty, ⟨false, ⟨none, [], 0⟩, 0, 0⟩⟩ : ItA) rfl (by have := List.getElem?_eq_some_iff.1 hx31; exact this.1) ?_
   refine l_nil ?_
   refine q_block ?_
   refine q_then ?_
   refine c_region ?_
   refine o_bin rfl rfl rfl (b_add (wrap_i64 (by omega) (by omega))) ?_
   refine o_move rfl rfl ?_
   refine l_nil ?_
   refine q_conv (fun w S => (S.perm p1).tail) ?_
   exact q_round (i + 1, (zs).set ((i : Int)).toNat (⟨ByteArray.empty, ⟨false, ⟨none, [], 0⟩, 0, 0⟩⟩ : ItA)) (by exact ⟨by omega, by rw [List.length_set]; exact hzl, spoil_on hdr⟩) (by (try dsimp only); omega) ⟨(by rw [List.length_set]; rfl), (by first | rfl | exact vint (by omega)), (by first | rfl | exact vint (by omega)), trivial⟩ (fun w S => S)
 · -- h1F
  have h1b := h1
  try simp only [decide_eq_false_iff_not, Int.not_lt, Int.not_le] at h1
  refine c_exit ?_
  refine q_pass_exit ?_
  refine q_pass_exit ?_
  refine q_hit ?_
  refine q_conv (fun w S => S.tail) ?_
  refine q_conv (fun w S => S.tail) ?_
  exact f_end (r_none rfl) (rfl) (fun w S => S)
end
section
set_option linter.unusedVariables false
set_option linter.unusedSimpArgs false
open Go.RowKit Classical
theorem mem_setM {k : ByteArray} {r : RecM} {M : Rows} {z : ByteArray × RecM} (h : z ∈ setM k r M) : z = (k, r) ∨ z ∈ M := by
  unfold setM at h
  split at h
  · exact .inr (mem_del.1 h).1
  · exact mem_ins h
theorem look_in {n : Int} {k : ByteArray} {M : Rows} : lookM n k M = r0 n k ∨ ∃ z ∈ M, z.1 = k ∧ z.2 = lookM n k M := by
  unfold lookM
  cases h : findM k M with
  | none => exact .inl rfl
  | some z => exact .inr ⟨z, List.mem_of_find?_eq_some h, find_key h, rfl⟩
/-- No key was moved oftener than that. -/
def Cnt (c : Int) (M : Rows) : Prop := 0 ≤ c ∧ ∀ z ∈ M, z.2.count ≤ c
theorem Cnt.look {c n : Int} {k : ByteArray} {M : Rows} (h : Cnt c M) : (lookM n k M).count ≤ c := by
  rcases look_in (n := n) (k := k) (M := M) with h1 | ⟨z, hz, _, h1⟩
  · rw [h1]; exact h.1
  · rw [← h1]; exact h.2 z hz
theorem Cnt.set {c c' : Int} {k : ByteArray} {r : RecM} {M : Rows} (h : Cnt c M) (hc : c ≤ c') (hr : r.count ≤ c') : Cnt c' (setM k r M) := ⟨Int.le_trans h.1 hc, fun z hz => by
  rcases mem_setM hz with rfl | hz
  · exact hr
  · exact Int.le_trans (h.2 z hz) hc⟩
/-- Both stores have the same rows behind a call. -/
structure Two (k : ByteArray) (s t s' t' : SS) : Prop where
  n1 : s'.n = s.n
  n2 : t'.n = t.n
  M : s'.M = t'.M
  len : s'.xs.length ≤ s.xs.length + 1
  cnt : ∀ c, Cnt c s.M → Cnt (c + 1) s'.M
  key : ∀ z ∈ s'.M, z.1 = k ∨ ∃ y ∈ s.M, y.1 = z.1
theorem key_setM {k : ByteArray} {r : RecM} {M : Rows} : ∀ z ∈ setM k r M, z.1 = k ∨ ∃ y ∈ M, y.1 = z.1 := fun z hz => by
  rcases mem_setM hz with rfl | hz
  · exact .inl rfl
  · exact .inr ⟨z, hz, rfl⟩
theorem Two.same {k : ByteArray} {s t : SS} (hM : s.M = t.M) : Two k s t s t := ⟨rfl, rfl, hM, by omega, fun c h => ⟨by have := h.1; omega, fun z hz => by have := h.2 z hz; omega⟩, fun z hz => .inr ⟨z, hz, rfl⟩⟩
theorem Two.put {s t s' t' : SS} {k : ByteArray} {v : List UInt8} (hM : s.M = t.M) (hn : s.n = t.n) (h1 : s'.n = s.n) (h2 : s'.M = putM s.n k v s.M) (h3 : t'.n = t.n) (h4 : t'.M = putM t.n k v t.M) : Two k s t s' t' :=
  ⟨h1, h3, by rw [h2, h4, hM, hn], by rw [← M_len, ← M_len, h2]; exact set_len, fun c h => by rw [h2]; exact h.set (by omega) (by have := h.look (n := s.n) (k := k); show (lookM s.n k s.M).count ≤ c + 1; omega), by rw [h2]; exact key_setM⟩
theorem Two.rm {s t s' t' : SS} {k : ByteArray} (hM : s.M = t.M) (hn : s.n = t.n) (h1 : s'.n = s.n) (h2 : s'.M = rmM s.n k s.M) (h3 : t'.n = t.n) (h4 : t'.M = rmM t.n k t.M) : Two k s t s' t' :=
  ⟨h1, h3, by rw [h2, h4, hM, hn], by rw [← M_len, ← M_len, h2]; exact set_len, fun c h => by rw [h2]; exact h.set (by omega) (by have := h.look (n := s.n) (k := k); show (lookM s.n k s.M).count ≤ c + 1; omega), by rw [h2]; exact key_setM⟩
theorem move_cases {n : Int} {k : ByteArray} {h e : Int} {M M' : Rows} (hm : moveM n k h M = (e, M')) : (e = 1 ∧ M' = M ∧ (h < 0 ∨ n ≤ h)) ∨ (e = 111 ∧ M' = M ∧ (lookM n k M).count = maxU) ∨ (e = 0 ∧ M' = setM k { lookM n k M with home := h, count := (lookM n k M).count + 1 } M ∧ 0 ≤ h ∧ h < n) := by
  unfold moveM at hm
  split at hm
  · have h1 := congrArg Prod.fst hm; have h2 := congrArg Prod.snd hm; simp only at h1 h2; exact .inl ⟨h1.symm, h2.symm, by assumption⟩
  · split at hm
    · have h1 := congrArg Prod.fst hm; have h2 := congrArg Prod.snd hm; simp only at h1 h2; exact .inr (.inl ⟨h1.symm, h2.symm, by assumption⟩)
    · have h1 := congrArg Prod.fst hm; have h2 := congrArg Prod.snd hm; simp only at h1 h2; exact .inr (.inr ⟨h1.symm, h2.symm, by omega, by omega⟩)
theorem move_len {n : Int} {k : ByteArray} {h e : Int} {M M' : Rows} (hm : moveM n k h M = (e, M')) : M'.length ≤ M.length + 1 := by
  rcases move_cases hm with ⟨_, h1, _⟩ | ⟨_, h1, _⟩ | ⟨_, h1, _⟩
  · rw [h1]; omega
  · rw [h1]; omega
  · rw [h1]; exact set_len
theorem Two.move {s t s' t' : SS} {k : ByteArray} {h e e' : Int} (hM : s.M = t.M) (hn : s.n = t.n) (h1 : s'.n = s.n) (h2 : moveM s.n k h s.M = (e, s'.M)) (h3 : t'.n = t.n) (h4 : moveM t.n k h t.M = (e', t'.M)) : e = e' ∧ Two k s t s' t' := by
  have h5 := h2
  rw [hM, hn, h4] at h5
  have h6 := congrArg Prod.fst h5
  have h7 := congrArg Prod.snd h5
  simp only at h6 h7
  refine ⟨h6.symm, h1, h3, h7.symm, by rw [← M_len, ← M_len]; exact move_len h2, fun c hc => ?_, ?_⟩
  · rcases move_cases h2 with ⟨_, h8, _⟩ | ⟨_, h8, _⟩ | ⟨_, h8, _⟩
    · rw [h8]; exact (Two.same (k := k) hM).cnt c hc
    · rw [h8]; exact (Two.same (k := k) hM).cnt c hc
    · rw [h8]; exact hc.set (by omega) (by have := hc.look (n := s.n) (k := k); show (lookM s.n k s.M).count + 1 ≤ c + 1; omega)
  · rcases move_cases h2 with ⟨_, h8, _⟩ | ⟨_, h8, _⟩ | ⟨_, h8, _⟩
    · rw [h8]; exact (Two.same (k := k) hM).key
    · rw [h8]; exact (Two.same (k := k) hM).key
    · rw [h8]; exact key_setM
theorem range_len {f : ByteArray} {mo : Int} {M : Rows} : (rangeM f mo M).length ≤ M.length := by
  unfold rangeM
  exact Nat.le_trans (List.length_take_le' _ _) (List.length_filter_le _ _)
theorem range_in {f : ByteArray} {mo : Int} {M : Rows} {z : ByteArray × RecM} (h : z ∈ rangeM f mo M) : z ∈ M := (List.mem_filter.1 (List.mem_of_mem_take h)).1
theorem rows_len {ys : List ItA} {M : Rows} (h : ys.map proj = M) : ys.length = M.length := by rw [← h, List.length_map]
theorem vals_small {s : SS} {ys : List ItA} (hok : OkS s) (h : ∀ z ∈ ys.map proj, z ∈ s.M) : ∀ y ∈ ys, y.f_value.f_Value.xs.length ≤ 1000000 := fun y hy => by
  obtain ⟨x, hx, he⟩ := List.mem_map.1 (h (proj y) (List.mem_map.2 ⟨y, hy, rfl⟩))
  have h1 := (hok.ok x hx).val
  have h2 : x.f_value.m = y.f_value.m := congrArg Prod.snd he
  rw [h2] at h1
  exact h1
end
section
set_option linter.unusedVariables false
set_option linter.unusedSimpArgs false
set_option maxRecDepth 10000
open Go.RowKit Classical
set_option maxHeartbeats 2000000 in
theorem do_ {W : World} {F : List Res} {k m : Nat} {s t : SS} {o : Op} (hs : RdS W F e8 o.f_Value.a o.f_Value.xs) (hk : o.f_Key.size ≤ 500) (hv : o.f_Value.xs.length ≤ 500) (hM : s.M = t.M) (hn : s.n = t.n) (hl : s.xs.length ≤ 100000) : CS Try.prog 16 #[.pointer (some ⟨k, 0, none⟩), .pointer (some ⟨m, 0, none⟩), .agg #[.int .i64 o.f_Kind, .int .i64 o.f_N, .string o.f_Key, .slice o.f_Value.a (o.f_Value.xs).length o.f_Value.c]] W (StR k s :: RfR m t :: F) (fun r L' => ∃ s' t' : SS, Two o.f_Key s t s' t' ∧ r = .bool true ∧ L' = StR k s' :: RfR m t' :: F) := by
 refine f_door (l0 := [(0, .pointer (some ⟨k, 0, none⟩)), (1, .pointer (some ⟨m, 0, none⟩)), (2, .agg #[.int .i64 o.f_Kind, .int .i64 o.f_N, .string o.f_Key, .slice o.f_Value.a (o.f_Value.xs).length o.f_Value.c])]) Try.func16 Try.ntmps16 rfl rfl rfl ?_
 refine c_seq ?_
 refine c_fact (p := OkS s) (fun w S => StR_ok S) fun hok => ?_
 refine c_region ?_
 refine o_box rfl rfl fun b5 => ?_
 refine o_assign rfl rfl ?_
 refine l_nil ?_
 refine q_then ?_
 refine c_seq ?_
 refine c_seq ?_
 refine c_region ?_
 refine o_fieldAddr (q := ⟨b5, 0, none⟩) rfl rfl Try.underlying32 rfl ti3 rfl ?_
 refine o_load1 rfl rfl Try.underlying3 rfl (rd_mem 0 rfl rfl) ?_
 refine o_bin rfl rfl rfl (b_and rfl) ?_
 refine l_nil ?_
 refine q_then ?_
 refine c_block ?_
 refine c_seq ?_
 refine c_region ?_
 refine o_bin rfl rfl rfl b_eql ?_
 refine o_assign rfl rfl ?_
 refine l_nil ?_
 refine q_then ?_
 refine c_cond rfl (fun h1 => ?_) (fun h1 => ?_)
 · -- h1T
  have h1b := h1
  try simp only [decide_eq_true_eq] at h1
  refine c_seq ?_
  refine c_region ?_
  refine o_move rfl rfl ?_
  refine o_fieldAddr (q := ⟨b5, 2, none⟩) rfl rfl Try.underlying32 rfl ti9 rfl ?_
  refine o_load1 rfl rfl Try.underlying9 rfl (rd_mem 0 rfl rfl) ?_
  refine l_f1 ?_
  refine o_call rfl cal12 rfl (rm6_ (k' := o.f_Key) (by omega) (by omega)) ?_
  rintro _ _ ⟨s43, hsn43, hsM43, rfl⟩
  refine l_nil ?_
  refine q_then ?_
  refine c_region ?_
  refine o_move rfl rfl ?_
  refine o_fieldAddr (q := ⟨b5, 2, none⟩) rfl rfl Try.underlying32 rfl ti9 rfl ?_
  refine o_load1 rfl rfl Try.underlying9 rfl (rd_mem 1 rfl rfl) ?_
  refine l_f2 ?_
  refine o_call rfl cal33 rfl (rrm_ (k' := o.f_Key) (by omega) (by have h9 := rows_len hM; rw [M_len] at h9; omega)) ?_
  rintro _ _ ⟨t47, htn47, htM47, rfl⟩
  refine l_nil ?_
  refine q_block ?_
  refine q_then ?_
  refine c_seq ?_
  refine c_region ?_
  refine o_assign rfl rfl ?_
  refine l_nil ?_
  refine q_then ?_
  refine c_ret ?_
  refine q_conv (fun w S => (S.perm p2).tail) ?_
  refine q_conv (fun w S => S.perm p1) ?_
  exact f_ret (r_one rfl rfl) (⟨s43, t47, Two.rm hM hn hsn43 hsM43 htn47 htM47, rfl, rfl⟩) (fun w S => S)
 · -- h1F
  have h1b := h1
  try simp only [decide_eq_false_iff_not, Int.not_lt, Int.not_le] at h1
  refine c_seq ?_
  refine c_seq ?_
  refine c_region ?_
  refine o_bin rfl rfl rfl b_eql ?_
  refine o_assign rfl rfl ?_
  refine l_nil ?_
  refine q_then ?_
  refine c_cond rfl (fun h2 => ?_) (fun h2 => ?_)
  · -- h2T
   have h2b := h2
   try simp only [decide_eq_true_eq] at h2
   refine c_skip ?_
   refine q_then ?_
   refine c_cond rfl (fun h3 => ?_) (fun h3 => ?_)
   · -- h3T
    have h3b := h3
    try simp only [decide_eq_true_eq] at h3
    refine c_seq ?_
    refine c_conv (fun w S => S.perm p2) ?_
    refine c_conv (fun w S => S.perm p2) ?_
    refine c_heldF [StR k s, RfR m t] (blk b5 (.cells #[.int .i64 o.f_Kind, .int .i64 o.f_N, .string o.f_Key, .slice o.f_Value.a (o.f_Value.xs).length o.f_Value.c] 32 (0, 0)) :: F) (by kernel_rfl) ?_
    refine h_take 0 rfl rfl (by kernel_rfl) (by kernel_rfl) (by kernel_rfl) (fun L0 => v_move rfl rfl) ?_
    refine h_take 1 rfl rfl (by kernel_rfl) (by kernel_rfl) (by kernel_rfl) (fun L0 => v_fieldAddr (q := ⟨b5, 2, none⟩) rfl rfl Try.underlying32 rfl ti9 rfl) ?_
    refine h_take 2 rfl rfl (by kernel_rfl) (by kernel_rfl) (by kernel_rfl) (fun L0 => v_load1 rfl rfl Try.underlying9 rfl (rd_mem 0 rfl rfl)) ?_
    refine h_take 3 rfl rfl (by kernel_rfl) (by kernel_rfl) (by kernel_rfl) (fun L0 => v_fieldAddr (q := ⟨b5, 1, none⟩) rfl rfl Try.underlying32 rfl ti3 rfl) ?_
    refine h_take 4 rfl rfl (by kernel_rfl) (by kernel_rfl) (by kernel_rfl) (fun L0 => v_load1 rfl rfl Try.underlying3 rfl (rd_mem 0 rfl rfl)) ?_
    refine h_take 6 rfl rfl (by kernel_rfl) (by kernel_rfl) (by kernel_rfl) (fun L0 => v_move rfl rfl) ?_
    refine h_take 7 rfl rfl (by kernel_rfl) (by kernel_rfl) (by kernel_rfl) (fun L0 => v_fieldAddr (q := ⟨b5, 2, none⟩) rfl rfl Try.underlying32 rfl ti9 rfl) ?_
    refine h_take 8 rfl rfl (by kernel_rfl) (by kernel_rfl) (by kernel_rfl) (fun L0 => v_load1 rfl rfl Try.underlying9 rfl (rd_mem 0 rfl rfl)) ?_
    refine h_take 9 rfl rfl (by kernel_rfl) (by kernel_rfl) (by kernel_rfl) (fun L0 => v_fieldAddr (q := ⟨b5, 1, none⟩) rfl rfl Try.underlying32 rfl ti3 rfl) ?_
    refine h_take 10 rfl rfl (by kernel_rfl) (by kernel_rfl) (by kernel_rfl) (fun L0 => v_load1 rfl rfl Try.underlying3 rfl (rd_mem 0 rfl rfl)) ?_
    refine h_one 5 rfl (by kernel_rfl) ?_
    refine l_conv (L' := StR k s :: RfR m t :: blk b5 (.cells #[.int .i64 o.f_Kind, .int .i64 o.f_N, .string o.f_Key, .slice o.f_Value.a (o.f_Value.xs).length o.f_Value.c] 32 (0, 0)) :: F) (fun w S => S.perm List.perm_append_comm) ?_
    refine o_call rfl cal18 rfl (move6_ (k' := o.f_Key) (h := o.f_N) (by omega) (by omega)) ?_
    rintro _ _ ⟨s56, e56, hsn56, hsM56, rfl, rfl⟩
    refine l_nil ?_
    refine q_conv (L' := (blk b5 (.cells #[.int .i64 o.f_Kind, .int .i64 o.f_N, .string o.f_Key, .slice o.f_Value.a (o.f_Value.xs).length o.f_Value.c] 32 (0, 0)) :: F) ++ [StR k s56, RfR m t]) (fun w S => S.perm (List.perm_append_comm (l₁ := [StR k s56, RfR m t]) (l₂ := blk b5 (.cells #[.int .i64 o.f_Kind, .int .i64 o.f_N, .string o.f_Key, .slice o.f_Value.a (o.f_Value.xs).length o.f_Value.c] 32 (0, 0)) :: F))) ?_
    refine h_next ?_
    refine h_one 11 rfl (by kernel_rfl) ?_
    refine l_conv (L' := StR k s56 :: RfR m t :: blk b5 (.cells #[.int .i64 o.f_Kind, .int .i64 o.f_N, .string o.f_Key, .slice o.f_Value.a (o.f_Value.xs).length o.f_Value.c] 32 (0, 0)) :: F) (fun w S => S.perm List.perm_append_comm) ?_
    refine l_f1 ?_
    refine o_call rfl cal34 rfl (rmove_ (k' := o.f_Key) (h := o.f_N) (by omega) (by have h9 := rows_len hM; rw [M_len] at h9; omega)) ?_
    rintro _ _ ⟨t62, e62, htn62, htM62, rfl, rfl⟩
    refine l_nil ?_
    refine q_conv (L' := (blk b5 (.cells #[.int .i64 o.f_Kind, .int .i64 o.f_N, .string o.f_Key, .slice o.f_Value.a (o.f_Value.xs).length o.f_Value.c] 32 (0, 0)) :: F) ++ [RfR m t62, StR k s56]) (fun w S => S.perm (List.perm_append_comm (l₁ := [RfR m t62, StR k s56]) (l₂ := blk b5 (.cells #[.int .i64 o.f_Kind, .int .i64 o.f_N, .string o.f_Key, .slice o.f_Value.a (o.f_Value.xs).length o.f_Value.c] 32 (0, 0)) :: F))) ?_
    refine h_next ?_
    refine h_take 12 rfl rfl (by kernel_rfl) (by kernel_rfl) (by kernel_rfl) (fun L0 => v_bin rfl rfl rfl b_eql) ?_
    refine h_eq (t := 63) (v' := .bool true) rfl (show _ = Value.bool true from by rw [(Two.move hM hn hsn56 hsM56 htn62 htM62).1]; simp) ?_
    refine h_take 13 rfl rfl (by kernel_rfl) (by kernel_rfl) (by kernel_rfl) (fun L0 => v_assign rfl rfl) ?_
    refine h_done (by kernel_rfl) ?_
    refine q_conv (L' := RfR m t62 :: StR k s56 :: blk b5 (.cells #[.int .i64 o.f_Kind, .int .i64 o.f_N, .string o.f_Key, .slice o.f_Value.a (o.f_Value.xs).length o.f_Value.c] 32 (0, 0)) :: F) (fun w S => S.perm List.perm_append_comm) ?_
    refine q_then ?_
    refine c_ret ?_
    refine q_block_ret ?_
    refine q_pass_ret ?_
    refine q_conv (fun w S => (S.perm p2).tail) ?_
    refine q_conv (fun w S => S.perm p1) ?_
    exact f_ret (r_one rfl rfl) (⟨s56, t62, (Two.move hM hn hsn56 hsM56 htn62 htM62).2, rfl, rfl⟩) (fun w S => S)
   · -- h3F
    have h3b := h3
    try simp only [decide_eq_false_iff_not, Int.not_lt, Int.not_le] at h3
    refine c_seq ?_
    refine c_region ?_
    refine o_bin rfl rfl rfl b_eql ?_
    refine o_assign rfl rfl ?_
    refine l_nil ?_
    refine q_then ?_
    refine c_cond rfl (fun h4 => ?_) (fun h4 => ?_)
    · -- h4T
     have h4b := h4
     try simp only [decide_eq_true_eq] at h4
     refine c_seq ?_
     refine c_region ?_
     refine o_move rfl rfl ?_
     refine o_fieldAddr (q := ⟨b5, 2, none⟩) rfl rfl Try.underlying32 rfl ti9 rfl ?_
     refine o_load1 rfl rfl Try.underlying9 rfl (rd_mem 0 rfl rfl) ?_
     refine o_fieldAddr (q := ⟨b5, 1, none⟩) rfl rfl Try.underlying32 rfl ti3 rfl ?_
     refine o_load1 rfl rfl Try.underlying3 rfl (rd_mem 0 rfl rfl) ?_
     refine l_f1 ?_
     refine o_call rfl cal17 rfl (prange_ (f := o.f_Key) (mo := o.f_N) (by omega)) ?_
     rintro _ _ ⟨ys71, a71, c71, hys71, rfl, rfl⟩
     refine o_assign rfl rfl ?_
     refine l_nil ?_
     refine q_then ?_
     refine c_seq ?_
     refine c_region ?_
     refine o_move rfl rfl ?_
     refine o_move rfl rfl ?_
     refine o_fieldAddr (q := ⟨b5, 2, none⟩) rfl rfl Try.underlying32 rfl ti9 rfl ?_
     refine o_load1 rfl rfl Try.underlying9 rfl (rd_mem 3 rfl rfl) ?_
     refine o_fieldAddr (q := ⟨b5, 1, none⟩) rfl rfl Try.underlying32 rfl ti3 rfl ?_
     refine o_load1 rfl rfl Try.underlying3 rfl (rd_mem 3 rfl rfl) ?_
     refine l_f4 ?_
     refine o_call rfl cal35 rfl (rrange_ (f := o.f_Key) (mo := o.f_N) (by have h9 := rows_len hM; rw [M_len] at h9; omega)) ?_
     rintro _ _ ⟨a78, c78, rfl, rfl⟩
     refine o_call rfl cal20 rfl (same_ (xs := ys71) (ys := (rngI o.f_Key o.f_N t.xs)) (c := c71) (c2 := c78) (rds_own e_Row_ok 2 rfl) (rds_own e_Row_ok 0 rfl) (fun x hx => rds_vals 3 rfl hx) (fun x hx => rds_rf 1 rfl (rngI_in hx)) (by have h9 := rows_len hys71; have h8 := range_len (f := o.f_Key) (mo := o.f_N) (M := s.M); rw [M_len] at h8; omega)) ?_
     rintro _ _ ⟨bb79, hbb79, rfl, rfl⟩
     have hb79 : bb79 = true := hbb79.2 (by rw [hys71, rngI_m, hM]; rfl)
     refine l_eq (t := 79) (v' := .bool true) rfl (by rw [hb79]) ?_
     refine o_assign rfl rfl ?_
     refine l_nil ?_
     refine q_then ?_
     refine c_seq ?_
     refine c_region ?_
     refine o_move rfl rfl ?_
     refine l_f3 ?_
     refine l_f3 ?_
     refine o_call rfl cal24 rfl (spoil_ (ys := ys71) (c := c71) (by have h9 := rows_len hys71; have h8 := range_len (f := o.f_Key) (mo := o.f_N) (M := s.M); rw [M_len] at h8; omega) (vals_small hok fun z hz => by rw [hys71] at hz; exact range_in hz)) ?_
     rintro _ _ rfl
     refine l_nil ?_
     refine q_then ?_
     refine c_seq ?_
     refine c_region ?_
     refine o_move rfl rfl ?_
     refine o_assign rfl rfl ?_
     refine l_nil ?_
     refine q_then ?_
     refine c_ret ?_
     refine q_block_ret ?_
     refine q_pass_ret ?_
     refine q_conv (fun w S => S.tail) ?_
     refine q_conv (fun w S => (S.perm p2).tail) ?_
     refine q_conv (fun w S => S.perm p1) ?_
     exact f_ret (r_one rfl rfl) (⟨s, t, Two.same hM, rfl, rfl⟩) (fun w S => S)
    · -- h4F
     have h4b := h4
     try simp only [decide_eq_false_iff_not, Int.not_lt, Int.not_le] at h4
     refine c_seq ?_
     refine c_region ?_
     refine o_lit e8_ok rfl Try.underlying23 rfl rfl rfl (lit_ok rfl) ([] : List UInt8) rfl rfl fun a14 => ?_
     refine o_fieldAddr (q := ⟨b5, 3, none⟩) rfl rfl Try.underlying32 rfl ti23 rfl ?_
     refine o_load1 rfl rfl Try.underlying23 rfl (rd_mem 1 rfl rfl) ?_
     refine o_append e8_ok rfl rfl rfl Try.underlying23 (rds_c (rds_c (rds_c (rds_c hs)))) (by show (_ + _) * 1 ≤ _; (try simp only [List.length_append, List.length_cons, List.length_nil]); omega) (by (try simp only [List.length_append, List.length_cons, List.length_nil]); omega) fun a17 c17 => ?_
     refine o_assign rfl rfl ?_
     refine l_nil ?_
     refine q_then ?_
     refine c_seq ?_
     refine c_region ?_
     refine o_move rfl rfl ?_
     refine o_fieldAddr (q := ⟨b5, 2, none⟩) rfl rfl Try.underlying32 rfl ti9 rfl ?_
     refine o_load1 rfl rfl Try.underlying9 rfl (rd_mem 1 rfl rfl) ?_
     refine o_move rfl rfl ?_
     refine l_f2 ?_
     refine o_call rfl cal11 rfl (put6_ (k' := o.f_Key) (vs := (([] : List UInt8) ++ o.f_Value.xs)) (av := a17) (cv := c17) (rds_own e8_ok 0 rfl) (by omega) (by rw [List.nil_append]; omega) (by omega)) ?_
     rintro _ _ ⟨s22, hsn22, hsM22, rfl⟩
     refine l_nil ?_
     refine q_then ?_
     refine c_seq ?_
     refine c_region ?_
     refine o_move rfl rfl ?_
     refine o_fieldAddr (q := ⟨b5, 2, none⟩) rfl rfl Try.underlying32 rfl ti9 rfl ?_
     refine o_load1 rfl rfl Try.underlying9 rfl (rd_mem 2 rfl rfl) ?_
     refine o_fieldAddr (q := ⟨b5, 3, none⟩) rfl rfl Try.underlying32 rfl ti23 rfl ?_
     refine o_load1 rfl rfl Try.underlying23 rfl (rd_mem 2 rfl rfl) ?_
     refine l_f3 ?_
     refine o_call rfl cal36 rfl (rput_ (k' := o.f_Key) (vs := o.f_Value.xs) (av := o.f_Value.a) (cv := o.f_Value.c) (rds_c (rds_c (rds_c hs))) (by omega) (by omega) (by have h9 := rows_len hM; rw [M_len] at h9; omega)) ?_
     rintro _ _ ⟨t28, htn28, htM28, rfl⟩
     refine l_nil ?_
     refine q_then ?_
     refine c_seq ?_
     have hna : (([] : List UInt8) ++ o.f_Value.xs).length = o.f_Value.xs.length := by rw [List.nil_append]
     refine c_region ?_
     refine o_move rfl rfl ?_
     refine o_len rfl rfl Try.underlying23 ?_
     refine o_move rfl rfl ?_
     refine l_nil ?_
     refine q_then ?_
     refine c_block ?_
     refine c_loop (α := Nat × (List UInt8)) (fun z => [(9, .slice a17 (z.2).length c17), (30, .int .i64 ((([] : List UInt8) ++ o.f_Value.xs).length : Int)), (31, .int .i64 (z.1 : Int))]) (fun z => RfR m t28 :: StR k s22 :: row e8.T e8.sz a17 (z.2).length c17 (flat e8 z.2) :: blk b5 (.cells #[.int .i64 o.f_Kind, .int .i64 o.f_N, .string o.f_Key, .slice o.f_Value.a (o.f_Value.xs).length o.f_Value.c] 32 (0, 0)) :: F) (fun z => z.1 ≤ o.f_Value.xs.length ∧ z.2.length = o.f_Value.xs.length) (fun z => o.f_Value.xs.length - z.1) (0, ([] : List UInt8) ++ o.f_Value.xs) (by exact ⟨Nat.zero_le _, by simp⟩) ⟨rfl, (by first | rfl | exact vint (by omega)), (by first | rfl | exact vint (by omega)), trivial⟩ (fun w S => S) ?_
     rintro ⟨q, B⟩ ⟨hq, hB⟩
     try dsimp only at *
     refine c_seq ?_
     refine c_region ?_
     refine o_bin rfl rfl rfl b_lss ?_
     refine l_nil ?_
     refine q_then ?_
     refine c_seq ?_
     refine c_cond rfl (fun h5 => ?_) (fun h5 => ?_)
     · -- h5T
      have h5b := h5
      try simp only [decide_eq_true_eq] at h5
      refine c_skip ?_
      refine q_then ?_
      refine c_seq ?_
      refine c_block ?_
      refine c_seq ?_
      refine c_region ?_
      refine o_move rfl rfl ?_
      refine o_assign rfl rfl ?_
      refine l_nil ?_
      refine q_then ?_
      refine c_region ?_
      refine o_move rfl rfl ?_
      refine o_move rfl rfl ?_
      refine o_index e8_ok rfl rfl rfl Try.underlying23 (by omega) (by omega) (rds_own e8_ok 2 rfl) fun ad36 ead36 => ?_
      obtain ⟨x36, hx36⟩ : ∃ x, (B)[((q : Int)).toNat]? = some x := ⟨_, List.getElem?_eq_getElem (by omega)⟩
      refine l_f2 ?_
      refine o_storeRow0 (x1 := (238 : UInt8)) e8_ok ead36 rfl rfl rfl ti5 hx36 rfl ?_
      refine l_nil ?_
      refine q_block ?_
      refine q_then ?_
      refine c_region ?_
      refine o_bin rfl rfl rfl (b_add (wrap_i64 (by omega) (by omega))) ?_
      refine o_move rfl rfl ?_
      refine l_nil ?_
      refine q_conv (fun w S => S.perm p3) ?_
      refine q_conv (fun w S => S.perm p1) ?_
      refine q_conv (fun w S => S.perm p3) ?_
      refine q_conv (fun w S => S.perm p3) ?_
      exact q_round (q + 1, (B).set ((q : Int)).toNat (238 : UInt8)) (by exact ⟨by omega, by rw [List.length_set]; exact hB⟩) (by (try dsimp only); omega) ⟨(by rw [List.length_set]; rfl), (by first | rfl | exact vint (by omega)), (by first | rfl | exact vint (by omega)), trivial⟩ (fun w S => S)
     · -- h5F
      have h5b := h5
      try simp only [decide_eq_false_iff_not, Int.not_lt, Int.not_le] at h5
      refine c_exit ?_
      refine q_pass_exit ?_
      refine q_pass_exit ?_
      refine q_hit ?_
      refine q_block ?_
      refine q_then ?_
      refine c_seq ?_
      refine c_region ?_
      refine o_assign rfl rfl ?_
      refine l_nil ?_
      refine q_then ?_
      refine c_ret ?_
      refine q_conv (fun w S => (S.perm p2).tail) ?_
      refine q_conv (fun w S => (S.perm p2).tail) ?_
      refine q_conv (fun w S => S.perm p1) ?_
      exact f_ret (r_one rfl rfl) (⟨s22, t28, Two.put hM hn hsn22 hsM22 htn28 htM28, rfl, rfl⟩) (fun w S => S)
  · -- h2F
   have h2b := h2
   try simp only [decide_eq_false_iff_not, Int.not_lt, Int.not_le] at h2
   refine c_region ?_
   refine o_bin rfl rfl rfl b_eql ?_
   refine o_assign rfl rfl ?_
   refine l_nil ?_
   refine q_then ?_
   refine c_cond rfl (fun h6 => ?_) (fun h6 => ?_)
   · -- h6T
    have h6b := h6
    try simp only [decide_eq_true_eq] at h6
    refine c_seq ?_
    refine c_conv (fun w S => S.perm p2) ?_
    refine c_conv (fun w S => S.perm p2) ?_
    refine c_heldF [StR k s, RfR m t] (blk b5 (.cells #[.int .i64 o.f_Kind, .int .i64 o.f_N, .string o.f_Key, .slice o.f_Value.a (o.f_Value.xs).length o.f_Value.c] 32 (0, 0)) :: F) (by kernel_rfl) ?_
    refine h_take 0 rfl rfl (by kernel_rfl) (by kernel_rfl) (by kernel_rfl) (fun L0 => v_move rfl rfl) ?_
    refine h_take 1 rfl rfl (by kernel_rfl) (by kernel_rfl) (by kernel_rfl) (fun L0 => v_fieldAddr (q := ⟨b5, 2, none⟩) rfl rfl Try.underlying32 rfl ti9 rfl) ?_
    refine h_take 2 rfl rfl (by kernel_rfl) (by kernel_rfl) (by kernel_rfl) (fun L0 => v_load1 rfl rfl Try.underlying9 rfl (rd_mem 0 rfl rfl)) ?_
    refine h_take 3 rfl rfl (by kernel_rfl) (by kernel_rfl) (by kernel_rfl) (fun L0 => v_fieldAddr (q := ⟨b5, 1, none⟩) rfl rfl Try.underlying32 rfl ti3 rfl) ?_
    refine h_take 4 rfl rfl (by kernel_rfl) (by kernel_rfl) (by kernel_rfl) (fun L0 => v_load1 rfl rfl Try.underlying3 rfl (rd_mem 0 rfl rfl)) ?_
    refine h_take 6 rfl rfl (by kernel_rfl) (by kernel_rfl) (by kernel_rfl) (fun L0 => v_move rfl rfl) ?_
    refine h_take 7 rfl rfl (by kernel_rfl) (by kernel_rfl) (by kernel_rfl) (fun L0 => v_fieldAddr (q := ⟨b5, 2, none⟩) rfl rfl Try.underlying32 rfl ti9 rfl) ?_
    refine h_take 8 rfl rfl (by kernel_rfl) (by kernel_rfl) (by kernel_rfl) (fun L0 => v_load1 rfl rfl Try.underlying9 rfl (rd_mem 0 rfl rfl)) ?_
    refine h_take 9 rfl rfl (by kernel_rfl) (by kernel_rfl) (by kernel_rfl) (fun L0 => v_fieldAddr (q := ⟨b5, 1, none⟩) rfl rfl Try.underlying32 rfl ti3 rfl) ?_
    refine h_take 10 rfl rfl (by kernel_rfl) (by kernel_rfl) (by kernel_rfl) (fun L0 => v_load1 rfl rfl Try.underlying3 rfl (rd_mem 0 rfl rfl)) ?_
    refine h_one 5 rfl (by kernel_rfl) ?_
    refine l_conv (L' := StR k s :: RfR m t :: blk b5 (.cells #[.int .i64 o.f_Kind, .int .i64 o.f_N, .string o.f_Key, .slice o.f_Value.a (o.f_Value.xs).length o.f_Value.c] 32 (0, 0)) :: F) (fun w S => S.perm List.perm_append_comm) ?_
    refine o_call rfl cal18 rfl (move6_ (k' := o.f_Key) (h := o.f_N) (by omega) (by omega)) ?_
    rintro _ _ ⟨s56, e56, hsn56, hsM56, rfl, rfl⟩
    refine l_nil ?_
    refine q_conv (L' := (blk b5 (.cells #[.int .i64 o.f_Kind, .int .i64 o.f_N, .string o.f_Key, .slice o.f_Value.a (o.f_Value.xs).length o.f_Value.c] 32 (0, 0)) :: F) ++ [StR k s56, RfR m t]) (fun w S => S.perm (List.perm_append_comm (l₁ := [StR k s56, RfR m t]) (l₂ := blk b5 (.cells #[.int .i64 o.f_Kind, .int .i64 o.f_N, .string o.f_Key, .slice o.f_Value.a (o.f_Value.xs).length o.f_Value.c] 32 (0, 0)) :: F))) ?_
    refine h_next ?_
    refine h_one 11 rfl (by kernel_rfl) ?_
    refine l_conv (L' := StR k s56 :: RfR m t :: blk b5 (.cells #[.int .i64 o.f_Kind, .int .i64 o.f_N, .string o.f_Key, .slice o.f_Value.a (o.f_Value.xs).length o.f_Value.c] 32 (0, 0)) :: F) (fun w S => S.perm List.perm_append_comm) ?_
    refine l_f1 ?_
    refine o_call rfl cal34 rfl (rmove_ (k' := o.f_Key) (h := o.f_N) (by omega) (by have h9 := rows_len hM; rw [M_len] at h9; omega)) ?_
    rintro _ _ ⟨t62, e62, htn62, htM62, rfl, rfl⟩
    refine l_nil ?_
    refine q_conv (L' := (blk b5 (.cells #[.int .i64 o.f_Kind, .int .i64 o.f_N, .string o.f_Key, .slice o.f_Value.a (o.f_Value.xs).length o.f_Value.c] 32 (0, 0)) :: F) ++ [RfR m t62, StR k s56]) (fun w S => S.perm (List.perm_append_comm (l₁ := [RfR m t62, StR k s56]) (l₂ := blk b5 (.cells #[.int .i64 o.f_Kind, .int .i64 o.f_N, .string o.f_Key, .slice o.f_Value.a (o.f_Value.xs).length o.f_Value.c] 32 (0, 0)) :: F))) ?_
    refine h_next ?_
    refine h_take 12 rfl rfl (by kernel_rfl) (by kernel_rfl) (by kernel_rfl) (fun L0 => v_bin rfl rfl rfl b_eql) ?_
    refine h_eq (t := 63) (v' := .bool true) rfl (show _ = Value.bool true from by rw [(Two.move hM hn hsn56 hsM56 htn62 htM62).1]; simp) ?_
    refine h_take 13 rfl rfl (by kernel_rfl) (by kernel_rfl) (by kernel_rfl) (fun L0 => v_assign rfl rfl) ?_
    refine h_done (by kernel_rfl) ?_
    refine q_conv (L' := RfR m t62 :: StR k s56 :: blk b5 (.cells #[.int .i64 o.f_Kind, .int .i64 o.f_N, .string o.f_Key, .slice o.f_Value.a (o.f_Value.xs).length o.f_Value.c] 32 (0, 0)) :: F) (fun w S => S.perm List.perm_append_comm) ?_
    refine q_then ?_
    refine c_ret ?_
    refine q_block_ret ?_
    refine q_pass_ret ?_
    refine q_conv (fun w S => (S.perm p2).tail) ?_
    refine q_conv (fun w S => S.perm p1) ?_
    exact f_ret (r_one rfl rfl) (⟨s56, t62, (Two.move hM hn hsn56 hsM56 htn62 htM62).2, rfl, rfl⟩) (fun w S => S)
   · -- h6F
    have h6b := h6
    try simp only [decide_eq_false_iff_not, Int.not_lt, Int.not_le] at h6
    refine c_seq ?_
    refine c_region ?_
    refine o_bin rfl rfl rfl b_eql ?_
    refine o_assign rfl rfl ?_
    refine l_nil ?_
    refine q_then ?_
    refine c_cond rfl (fun h7 => ?_) (fun h7 => ?_)
    · -- h7T
     have h7b := h7
     try simp only [decide_eq_true_eq] at h7
     refine c_seq ?_
     refine c_region ?_
     refine o_move rfl rfl ?_
     refine o_fieldAddr (q := ⟨b5, 2, none⟩) rfl rfl Try.underlying32 rfl ti9 rfl ?_
     refine o_load1 rfl rfl Try.underlying9 rfl (rd_mem 0 rfl rfl) ?_
     refine o_fieldAddr (q := ⟨b5, 1, none⟩) rfl rfl Try.underlying32 rfl ti3 rfl ?_
     refine o_load1 rfl rfl Try.underlying3 rfl (rd_mem 0 rfl rfl) ?_
     refine l_f1 ?_
     refine o_call rfl cal17 rfl (prange_ (f := o.f_Key) (mo := o.f_N) (by omega)) ?_
     rintro _ _ ⟨ys71, a71, c71, hys71, rfl, rfl⟩
     refine o_assign rfl rfl ?_
     refine l_nil ?_
     refine q_then ?_
     refine c_seq ?_
     refine c_region ?_
     refine o_move rfl rfl ?_
     refine o_move rfl rfl ?_
     refine o_fieldAddr (q := ⟨b5, 2, none⟩) rfl rfl Try.underlying32 rfl ti9 rfl ?_
     refine o_load1 rfl rfl Try.underlying9 rfl (rd_mem 3 rfl rfl) ?_
     refine o_fieldAddr (q := ⟨b5, 1, none⟩) rfl rfl Try.underlying32 rfl ti3 rfl ?_
     refine o_load1 rfl rfl Try.underlying3 rfl (rd_mem 3 rfl rfl) ?_
     refine l_f4 ?_
     refine o_call rfl cal35 rfl (rrange_ (f := o.f_Key) (mo := o.f_N) (by have h9 := rows_len hM; rw [M_len] at h9; omega)) ?_
     rintro _ _ ⟨a78, c78, rfl, rfl⟩
     refine o_call rfl cal20 rfl (same_ (xs := ys71) (ys := (rngI o.f_Key o.f_N t.xs)) (c := c71) (c2 := c78) (rds_own e_Row_ok 2 rfl) (rds_own e_Row_ok 0 rfl) (fun x hx => rds_vals 3 rfl hx) (fun x hx => rds_rf 1 rfl (rngI_in hx)) (by have h9 := rows_len hys71; have h8 := range_len (f := o.f_Key) (mo := o.f_N) (M := s.M); rw [M_len] at h8; omega)) ?_
     rintro _ _ ⟨bb79, hbb79, rfl, rfl⟩
     have hb79 : bb79 = true := hbb79.2 (by rw [hys71, rngI_m, hM]; rfl)
     refine l_eq (t := 79) (v' := .bool true) rfl (by rw [hb79]) ?_
     refine o_assign rfl rfl ?_
     refine l_nil ?_
     refine q_then ?_
     refine c_seq ?_
     refine c_region ?_
     refine o_move rfl rfl ?_
     refine l_f3 ?_
     refine l_f3 ?_
     refine o_call rfl cal24 rfl (spoil_ (ys := ys71) (c := c71) (by have h9 := rows_len hys71; have h8 := range_len (f := o.f_Key) (mo := o.f_N) (M := s.M); rw [M_len] at h8; omega) (vals_small hok fun z hz => by rw [hys71] at hz; exact range_in hz)) ?_
     rintro _ _ rfl
     refine l_nil ?_
     refine q_then ?_
     refine c_seq ?_
     refine c_region ?_
     refine o_move rfl rfl ?_
     refine o_assign rfl rfl ?_
     refine l_nil ?_
     refine q_then ?_
     refine c_ret ?_
     refine q_block_ret ?_
     refine q_pass_ret ?_
     refine q_conv (fun w S => S.tail) ?_
     refine q_conv (fun w S => (S.perm p2).tail) ?_
     refine q_conv (fun w S => S.perm p1) ?_
     exact f_ret (r_one rfl rfl) (⟨s, t, Two.same hM, rfl, rfl⟩) (fun w S => S)
    · -- h7F
     have h7b := h7
     try simp only [decide_eq_false_iff_not, Int.not_lt, Int.not_le] at h7
     refine c_seq ?_
     refine c_region ?_
     refine o_lit e8_ok rfl Try.underlying23 rfl rfl rfl (lit_ok rfl) ([] : List UInt8) rfl rfl fun a14 => ?_
     refine o_fieldAddr (q := ⟨b5, 3, none⟩) rfl rfl Try.underlying32 rfl ti23 rfl ?_
     refine o_load1 rfl rfl Try.underlying23 rfl (rd_mem 1 rfl rfl) ?_
     refine o_append e8_ok rfl rfl rfl Try.underlying23 (rds_c (rds_c (rds_c (rds_c hs)))) (by show (_ + _) * 1 ≤ _; (try simp only [List.length_append, List.length_cons, List.length_nil]); omega) (by (try simp only [List.length_append, List.length_cons, List.length_nil]); omega) fun a17 c17 => ?_
     refine o_assign rfl rfl ?_
     refine l_nil ?_
     refine q_then ?_
     refine c_seq ?_
     refine c_region ?_
     refine o_move rfl rfl ?_
     refine o_fieldAddr (q := ⟨b5, 2, none⟩) rfl rfl Try.underlying32 rfl ti9 rfl ?_
     refine o_load1 rfl rfl Try.underlying9 rfl (rd_mem 1 rfl rfl) ?_
     refine o_move rfl rfl ?_
     refine l_f2 ?_
     refine o_call rfl cal11 rfl (put6_ (k' := o.f_Key) (vs := (([] : List UInt8) ++ o.f_Value.xs)) (av := a17) (cv := c17) (rds_own e8_ok 0 rfl) (by omega) (by rw [List.nil_append]; omega) (by omega)) ?_
     rintro _ _ ⟨s22, hsn22, hsM22, rfl⟩
     refine l_nil ?_
     refine q_then ?_
     refine c_seq ?_
     refine c_region ?_
     refine o_move rfl rfl ?_
     refine o_fieldAddr (q := ⟨b5, 2, none⟩) rfl rfl Try.underlying32 rfl ti9 rfl ?_
     refine o_load1 rfl rfl Try.underlying9 rfl (rd_mem 2 rfl rfl) ?_
     refine o_fieldAddr (q := ⟨b5, 3, none⟩) rfl rfl Try.underlying32 rfl ti23 rfl ?_
     refine o_load1 rfl rfl Try.underlying23 rfl (rd_mem 2 rfl rfl) ?_
     refine l_f3 ?_
     refine o_call rfl cal36 rfl (rput_ (k' := o.f_Key) (vs := o.f_Value.xs) (av := o.f_Value.a) (cv := o.f_Value.c) (rds_c (rds_c (rds_c hs))) (by omega) (by omega) (by have h9 := rows_len hM; rw [M_len] at h9; omega)) ?_
     rintro _ _ ⟨t28, htn28, htM28, rfl⟩
     refine l_nil ?_
     refine q_then ?_
     refine c_seq ?_
     have hna : (([] : List UInt8) ++ o.f_Value.xs).length = o.f_Value.xs.length := by rw [List.nil_append]
     refine c_region ?_
     refine o_move rfl rfl ?_
     refine o_len rfl rfl Try.underlying23 ?_
     refine o_move rfl rfl ?_
     refine l_nil ?_
     refine q_then ?_
     refine c_block ?_
     refine c_loop (α := Nat × (List UInt8)) (fun z => [(9, .slice a17 (z.2).length c17), (30, .int .i64 ((([] : List UInt8) ++ o.f_Value.xs).length : Int)), (31, .int .i64 (z.1 : Int))]) (fun z => RfR m t28 :: StR k s22 :: row e8.T e8.sz a17 (z.2).length c17 (flat e8 z.2) :: blk b5 (.cells #[.int .i64 o.f_Kind, .int .i64 o.f_N, .string o.f_Key, .slice o.f_Value.a (o.f_Value.xs).length o.f_Value.c] 32 (0, 0)) :: F) (fun z => z.1 ≤ o.f_Value.xs.length ∧ z.2.length = o.f_Value.xs.length) (fun z => o.f_Value.xs.length - z.1) (0, ([] : List UInt8) ++ o.f_Value.xs) (by exact ⟨Nat.zero_le _, by simp⟩) ⟨rfl, (by first | rfl | exact vint (by omega)), (by first | rfl | exact vint (by omega)), trivial⟩ (fun w S => S) ?_
     rintro ⟨q, B⟩ ⟨hq, hB⟩
     try dsimp only at *
     refine c_seq ?_
     refine c_region ?_
     refine o_bin rfl rfl rfl b_lss ?_
     refine l_nil ?_
     refine q_then ?_
     refine c_seq ?_
     refine c_cond rfl (fun h8 => ?_) (fun h8 => ?_)
     · -- h8T
      have h8b := h8
      try simp only [decide_eq_true_eq] at h8
      refine c_skip ?_
      refine q_then ?_
      refine c_seq ?_
      refine c_block ?_
      refine c_seq ?_
      refine c_region ?_
      refine o_move rfl rfl ?_
      refine o_assign rfl rfl ?_
      refine l_nil ?_
      refine q_then ?_
      refine c_region ?_
      refine o_move rfl rfl ?_
      refine o_move rfl rfl ?_
      refine o_index e8_ok rfl rfl rfl Try.underlying23 (by omega) (by omega) (rds_own e8_ok 2 rfl) fun ad36 ead36 => ?_
      obtain ⟨x36, hx36⟩ : ∃ x, (B)[((q : Int)).toNat]? = some x := ⟨_, List.getElem?_eq_getElem (by omega)⟩
      refine l_f2 ?_
      refine o_storeRow0 (x1 := (238 : UInt8)) e8_ok ead36 rfl rfl rfl ti5 hx36 rfl ?_
      refine l_nil ?_
      refine q_block ?_
      refine q_then ?_
      refine c_region ?_
      refine o_bin rfl rfl rfl (b_add (wrap_i64 (by omega) (by omega))) ?_
      refine o_move rfl rfl ?_
      refine l_nil ?_
      refine q_conv (fun w S => S.perm p3) ?_
      refine q_conv (fun w S => S.perm p1) ?_
      refine q_conv (fun w S => S.perm p3) ?_
      refine q_conv (fun w S => S.perm p3) ?_
      exact q_round (q + 1, (B).set ((q : Int)).toNat (238 : UInt8)) (by exact ⟨by omega, by rw [List.length_set]; exact hB⟩) (by (try dsimp only); omega) ⟨(by rw [List.length_set]; rfl), (by first | rfl | exact vint (by omega)), (by first | rfl | exact vint (by omega)), trivial⟩ (fun w S => S)
     · -- h8F
      have h8b := h8
      try simp only [decide_eq_false_iff_not, Int.not_lt, Int.not_le] at h8
      refine c_exit ?_
      refine q_pass_exit ?_
      refine q_pass_exit ?_
      refine q_hit ?_
      refine q_block ?_
      refine q_then ?_
      refine c_seq ?_
      refine c_region ?_
      refine o_assign rfl rfl ?_
      refine l_nil ?_
      refine q_then ?_
      refine c_ret ?_
      refine q_conv (fun w S => (S.perm p2).tail) ?_
      refine q_conv (fun w S => (S.perm p2).tail) ?_
      refine q_conv (fun w S => S.perm p1) ?_
      exact f_ret (r_one rfl rfl) (⟨s22, t28, Two.put hM hn hsn22 hsM22 htn28 htM28, rfl, rfl⟩) (fun w S => S)
end
section
set_option linter.unusedVariables false
set_option linter.unusedSimpArgs false
open Go.RowKit Classical
/-- The rows of a script so far. -/
structure Script (n : Int) (i : Nat) (s t : SS) : Prop where
  n1 : s.n = n
  n2 : t.n = n
  M : s.M = t.M
  len : s.xs.length ≤ i
  cnt : Cnt i s.M
  key : ∀ z ∈ s.M, z.1.size ≤ 500
theorem Script.start {n : Int} {s t : SS} (h1 : s = ⟨n, []⟩) (h2 : t = ⟨n, []⟩) : Script n 0 s t := by
  subst h1 h2
  exact ⟨rfl, rfl, rfl, Nat.le_refl _, ⟨Int.le_refl _, fun z hz => by simp [SS.M] at hz⟩, fun z hz => by simp [SS.M] at hz⟩
theorem Script.on {n : Int} {i : Nat} {s t s' t' : SS} {k : ByteArray} (h : Script n i s t) (h2 : Two k s t s' t') (hk : k.size ≤ 500) : Script n (i + 1) s' t' :=
  ⟨h2.n1.trans h.n1, h2.n2.trans h.n2, h2.M, by have := h2.len; have := h.len; omega, by have := h2.cnt _ h.cnt; rw [Int.natCast_add]; exact this, fun z hz => by
    rcases h2.key z hz with rfl | ⟨y, hy, h3⟩
    · exact hk
    · rw [← h3]; exact h.key y hy⟩
theorem Script.eq {n : Int} {i : Nat} {s t : SS} (h : Script n i s t) : s.n = t.n := h.n1.trans h.n2.symm
end
section
set_option linter.unusedVariables false
set_option linter.unusedSimpArgs false
set_option maxRecDepth 10000
open Go.RowKit Classical
theorem ti76 : TI Try.prog 76 (.agg #[.slice none 0 0]) 1 24 := by unfold TI; kernel_rfl
theorem sp76 : StructP Try.prog 76 #[(0, 1)] := ⟨_, Try.underlying76, fun w => by kernel_rfl⟩
end
section
set_option linter.unusedVariables false
set_option linter.unusedSimpArgs false
open Go.RowKit
theorem cv8 (n : Nat) : IntKind.u8.wrap (n : Int) = ((UInt8.ofNat n).toNat : Int) := by
  simp [IntKind.wrap, IntKind.signed, IntKind.bits]
theorem or128 (a : UInt8) : ibits .or .u8 (a.toNat : Int) 128 = ((a ||| 128).toNat : Int) := by
  have : ∀ b : BitVec 8, ibits .or .u8 ((UInt8.ofBitVec b).toNat : Int) 128 = ((UInt8.ofBitVec b ||| 128).toNat : Int) := by decide
  exact this a.toBitVec
theorem fdiv128 (n : Nat) : (n : Int).fdiv 128 = ((n / 128 : Nat) : Int) := by rw [Int.fdiv_eq_ediv_of_nonneg _ (by omega)]; omega
/-- A number's bytes. -/
def numB (n : Nat) : List UInt8 := if h : n < 128 then [UInt8.ofNat n] else (UInt8.ofNat n ||| 128) :: numB (n / 128)
theorem numB_lt {n : Nat} (h : n < 128) : numB n = [UInt8.ofNat n] := by rw [numB]; simp [h]
theorem numB_ge {n : Nat} (h : 128 ≤ n) : numB n = (UInt8.ofNat n ||| 128) :: numB (n / 128) := by rw [numB]; simp [show ¬ n < 128 by omega]
theorem numB_len_le : ∀ (k n : Nat), n < 128 ^ k → 0 < k → (numB n).length ≤ k
  | 0, n, h, hk => absurd hk (by omega)
  | k + 1, n, h, _ => by
    by_cases hn : n < 128
    · rw [numB_lt hn]; simp
    · rw [numB_ge (by omega)]
      have hk : 0 < k := by
        rcases Nat.eq_zero_or_pos k with h0 | h0
        · subst h0; simp at h; omega
        · exact h0
      have := numB_len_le k (n / 128) (by rw [Nat.pow_succ] at h; exact Nat.div_lt_of_lt_mul (by rw [Nat.mul_comm]; exact h)) hk
      simp; omega
theorem numB_pos (n : Nat) : 0 < (numB n).length := by
  by_cases hn : n < 128
  · rw [numB_lt hn]; simp
  · rw [numB_ge (by omega)]; simp
theorem or_low (n : Nat) : (UInt8.ofNat n ||| 128).toNat = n % 128 + 128 := by
  have h : ∀ k : Fin 256, (UInt8.ofNat k.val ||| 128).toNat = k.val % 128 + 128 := by decide +kernel
  have h2 : UInt8.ofNat n = UInt8.ofNat (n % 256) := by apply UInt8.toNat_inj.1; simp
  rw [h2, h ⟨n % 256, Nat.mod_lt _ (by omega)⟩]
  show n % 256 % 128 + 128 = _
  omega
theorem add_low (n : Nat) : UInt8.ofNat (n % 128 + 128) = UInt8.ofNat n ||| 128 := by
  apply UInt8.toNat_inj.1
  rw [or_low]
  simp
  omega
theorem tmod128 (n : Nat) : (n : Int).tmod 128 = ((n % 128 : Nat) : Int) := by rw [Int.tmod_eq_emod_of_nonneg (by omega)]; omega
theorem tdiv128 {n : Nat} (h : n < 18446744073709551616) : IntKind.u64.wrap ((n : Int).tdiv 128) = ((n / 128 : Nat) : Int) := by
  rw [Int.tdiv_eq_ediv_of_nonneg (by omega)]
  rw [wrap_u64 (by omega) (by omega)]
  omega
theorem addlow (n : Nat) : IntKind.u64.wrap (((n % 128 : Nat) : Int) + 128) = ((n % 128 + 128 : Nat) : Int) := by
  rw [wrap_u64 (by omega) (by omega)]
  omega
end
section
set_option linter.unusedVariables false
set_option linter.unusedSimpArgs false
set_option maxRecDepth 10000
open Go.RowKit
theorem clone8p {W : World} {F : List Res} {xs : List UInt8} {a : Option Addr} {c : Nat} (hs : RdS W F e8 a xs) (hn : xs.length ≤ 70000000000000) : CS Try.prog 61 #[.slice a xs.length c] W (F) (fun r L' => ∃ (a' : Option Addr) (c' : Nat), r = .slice a' xs.length c' ∧ L' = row e8.T e8.sz a' (xs).length c' (flat e8 xs) :: F) := by
 refine f_door (l0 := [(0, .slice a xs.length c)]) Try.func61 Try.ntmps61 rfl rfl rfl ?_
 refine c_seq ?_
 refine c_fact (rds_nilq hs) ?_
 intro hz
 refine c_region ?_
 refine o_assign rfl rfl ?_
 refine l_nil ?_
 refine q_then ?_
 refine c_seq ?_
 refine c_seq ?_
 refine c_region ?_
 refine o_move rfl rfl ?_
 refine o_bin rfl rfl rfl (b_sleq Try.underlying23 _ _ _) ?_
 refine l_nil ?_
 refine q_then ?_
 refine c_cond rfl (fun h1 => ?_) (fun h1 => ?_)
 · -- h1T
  try simp only [decide_eq_true_eq, decide_eq_false_iff_not, Bool.not_eq_eq_eq_not, Bool.not_true, Bool.not_false, Bool.not_eq_true', Bool.not_eq_false', Int.not_lt, Int.not_le, Bool.or_eq_true, Bool.and_eq_true] at h1
  have hnil : xs = [] := hz (by simpa using h1)
  refine c_seq ?_
  refine c_region ?_
  refine o_assign rfl rfl ?_
  refine l_nil ?_
  refine q_then ?_
  refine c_ret ?_
  refine q_pass_ret ?_
  exact f_ret (r_one rfl rfl) (⟨none, 0, by rw [hnil]; rfl, rfl⟩) (by rw [hnil]; exact fun w S => S.own_nil)
 · -- h1F
  try simp only [decide_eq_true_eq, decide_eq_false_iff_not, Bool.not_eq_eq_eq_not, Bool.not_true, Bool.not_false, Bool.not_eq_true', Bool.not_eq_false', Int.not_lt, Int.not_le, Bool.or_eq_true, Bool.and_eq_true] at h1
  refine c_skip ?_
  refine q_then ?_
  refine c_seq ?_
  refine c_region ?_
  refine o_lit e8_ok rfl Try.underlying23 rfl rfl rfl (lit_ok rfl) ([] : List UInt8) rfl rfl fun a5 => ?_
  refine o_move rfl rfl ?_
  refine o_append e8_ok rfl rfl rfl Try.underlying23 (rds_c hs) (by show (_ + _) * 1 ≤ _; (try simp only [List.length_append, List.length_cons, List.length_nil]); omega) (by (try simp only [List.length_append, List.length_cons, List.length_nil]); omega) fun a7 c7 => ?_
  refine o_assign rfl rfl ?_
  refine l_nil ?_
  refine q_then ?_
  refine c_ret ?_
  exact f_ret (r_one rfl rfl) (⟨_, _, rfl, rfl⟩) (fun w S => by simpa using S)
end
section
set_option linter.unusedVariables false
set_option linter.unusedSimpArgs false
set_option maxRecDepth 10000
open Go.RowKit
theorem penNum {W : World} {F : List Res} {k : Nat} {xs : List UInt8} {a : Option Addr} {c : Nat} {v : Nat} (hv : v < 18446744073709551616) (hn : xs.length ≤ 70000000000000) : CS Try.prog 39 #[.pointer (some ⟨k, 0, none⟩), .int .u64 (v : Int)] W (blk k (.cells #[.slice a (xs).length c] 76 (0, 0)) :: row e8.T e8.sz a (xs).length c (flat e8 xs) :: F) (fun r L' => ∃ (a' : Option Addr) (c' : Nat), r = .tuple #[] ∧ L' = blk k (.cells #[.slice a' ((xs ++ numB v)).length c'] 76 (0, 0)) :: row e8.T e8.sz a' ((xs ++ numB v)).length c' (flat e8 (xs ++ numB v)) :: F) := by
 refine f_door (l0 := [(0, .pointer (some ⟨k, 0, none⟩)), (1, .int .u64 (v : Int))]) Try.func39 Try.ntmps39 rfl rfl rfl ?_
 refine c_seq ?_
 refine c_block ?_
 refine c_loop (α := Nat × (List UInt8) × (Option Addr) × Nat) (fun z => [(0, .pointer (some ⟨k, 0, none⟩)), (1, .int .u64 (z.1 : Int))]) (fun z => blk k (.cells #[.slice z.2.2.1 (z.2.1).length z.2.2.2] 76 (0, 0)) :: row e8.T e8.sz z.2.2.1 (z.2.1).length z.2.2.2 (flat e8 z.2.1) :: F) (fun z => z.2.1 ++ numB z.1 = xs ++ numB v ∧ z.1 < 18446744073709551616 ∧ z.2.1.length + (numB z.1).length ≤ 70000000000010) (fun z => z.1) (v, xs, a, c) (by exact ⟨rfl, hv, by dsimp only; have := numB_len_le 10 v (by omega) (by omega); omega⟩) ⟨(by first | rfl | exact vint (by omega)), (by first | rfl | exact vint (by omega)), trivial⟩ (fun w S => S) ?_
 rintro ⟨u, ys, a, c⟩ ⟨hq, hu, hl⟩
 try dsimp only at *
 have hnp := numB_pos u
 refine c_seq ?_
 refine c_seq ?_
 refine c_region ?_
 refine o_move rfl rfl ?_
 refine o_bin rfl rfl rfl b_geq ?_
 refine l_nil ?_
 refine q_then ?_
 refine c_cond rfl (fun h1 => ?_) (fun h1 => ?_)
 · -- h1T
  try simp only [decide_eq_true_eq, decide_eq_false_iff_not, Bool.not_eq_eq_eq_not, Bool.not_true, Bool.not_false, Bool.not_eq_true', Bool.not_eq_false', Int.not_lt, Int.not_le, Bool.or_eq_true, Bool.and_eq_true] at h1
  refine c_skip ?_
  refine q_then ?_
  refine c_seq ?_
  refine c_block ?_
  refine c_region ?_
  refine o_move rfl rfl ?_
  refine o_move rfl rfl ?_
  refine o_nil rfl rfl ?_
  refine o_fieldAddr (q := ⟨k, 0, none⟩) rfl rfl Try.underlying76 rfl ti23 rfl ?_
  refine o_load1 rfl rfl Try.underlying23 rfl (rd_mem 0 rfl rfl) ?_
  refine o_move rfl rfl ?_
  refine o_int rfl rfl Try.underlying34 Try.underlying5 (cv8 u) ?_
  refine o_bin rfl rfl rfl (b_or (or128 _)) ?_
  refine o_lit e8_ok rfl Try.underlying23 rfl rfl rfl (lit_ok rfl) [UInt8.ofNat u ||| 128] rfl rfl fun a16 => ?_
  refine l_f2 ?_
  refine o_append e8_ok rfl rfl rfl Try.underlying23 (rds_own e8_ok 1 rfl) (by show (_ + _) * 1 ≤ _; (try simp only [List.length_append, List.length_cons, List.length_nil]); omega) (by (try simp only [List.length_append, List.length_cons, List.length_nil]); omega) fun a17 c17 => ?_
  refine l_f1 ?_
  refine l_drop ?_
  refine o_nil rfl rfl ?_
  refine o_fieldAddr (q := ⟨k, 0, none⟩) rfl rfl Try.underlying76 rfl ti23 rfl ?_
  refine l_f1 ?_
  refine o_store1 rfl rfl rfl ti23 rfl rfl ?_
  refine l_nil ?_
  refine q_block ?_
  refine q_then ?_
  refine c_region ?_
  refine o_move rfl rfl ?_
  refine o_bin rfl rfl rfl (b_shr (by omega) (fdiv128 u)) ?_
  refine o_assign rfl rfl ?_
  refine l_nil ?_
  exact q_round (u / 128, ys ++ [UInt8.ofNat u ||| 128], a17, c17) (by have h9 := numB_ge (n := u) (by omega); exact ⟨by rw [← hq, h9]; simp, by omega, by rw [h9] at hl; simp only [List.length_append, List.length_cons, List.length_nil] at hl ⊢; omega⟩) (by (try dsimp only); omega) ⟨(by first | rfl | exact vint (by omega)), (by first | rfl | exact vint (by omega)), trivial⟩ (fun w S => S)
 · -- h1F
  try simp only [decide_eq_true_eq, decide_eq_false_iff_not, Bool.not_eq_eq_eq_not, Bool.not_true, Bool.not_false, Bool.not_eq_true', Bool.not_eq_false', Int.not_lt, Int.not_le, Bool.or_eq_true, Bool.and_eq_true] at h1
  have hq' : ys ++ [UInt8.ofNat u] = xs ++ numB v := by rw [← hq, numB_lt (by omega)]
  refine c_exit ?_
  refine q_pass_exit ?_
  refine q_pass_exit ?_
  refine q_hit ?_
  refine q_then ?_
  refine c_region ?_
  refine o_move rfl rfl ?_
  refine o_move rfl rfl ?_
  refine o_nil rfl rfl ?_
  refine o_fieldAddr (q := ⟨k, 0, none⟩) rfl rfl Try.underlying76 rfl ti23 rfl ?_
  refine o_load1 rfl rfl Try.underlying23 rfl (rd_mem 0 rfl rfl) ?_
  refine o_move rfl rfl ?_
  refine o_int rfl rfl Try.underlying34 Try.underlying5 (cv8 u) ?_
  refine o_lit e8_ok rfl Try.underlying23 rfl rfl rfl (lit_ok rfl) [UInt8.ofNat u] rfl rfl fun a27 => ?_
  refine l_f2 ?_
  refine o_append e8_ok rfl rfl rfl Try.underlying23 (rds_own e8_ok 1 rfl) (by show (_ + _) * 1 ≤ _; (try simp only [List.length_append, List.length_cons, List.length_nil]); omega) (by (try simp only [List.length_append, List.length_cons, List.length_nil]); omega) fun a28 c28 => ?_
  refine l_f1 ?_
  refine l_drop ?_
  refine o_nil rfl rfl ?_
  refine o_fieldAddr (q := ⟨k, 0, none⟩) rfl rfl Try.underlying76 rfl ti23 rfl ?_
  refine l_f1 ?_
  refine o_store1 rfl rfl rfl ti23 rfl rfl ?_
  refine l_nil ?_
  exact f_end (r_none rfl) (⟨a28, c28, rfl, by rw [← hq']; rfl⟩) (fun w S => S)
theorem penData {W : World} {F : List Res} {k : Nat} {xs : List UInt8} {a : Option Addr} {c : Nat} (hn : xs.length ≤ 70000000000000) : CS Try.prog 43 #[.pointer (some ⟨k, 0, none⟩)] W (blk k (.cells #[.slice a (xs).length c] 76 (0, 0)) :: row e8.T e8.sz a (xs).length c (flat e8 xs) :: F) (fun r L' => ∃ (a' : Option Addr) (c' : Nat), r = .slice a' xs.length c' ∧ L' = row e8.T e8.sz a' (xs).length c' (flat e8 xs) :: blk k (.cells #[.slice a (xs).length c] 76 (0, 0)) :: row e8.T e8.sz a (xs).length c (flat e8 xs) :: F) := by
 refine f_door (l0 := [(0, .pointer (some ⟨k, 0, none⟩))]) Try.func43 Try.ntmps43 rfl rfl rfl ?_
 refine c_seq ?_
 refine c_region ?_
 refine o_assign rfl rfl ?_
 refine l_nil ?_
 refine q_then ?_
 refine c_seq ?_
 refine c_region ?_
 refine o_move rfl rfl ?_
 refine o_nil rfl rfl ?_
 refine o_fieldAddr (q := ⟨k, 0, none⟩) rfl rfl Try.underlying76 rfl ti23 rfl ?_
 refine o_load1 rfl rfl Try.underlying23 rfl (rd_mem 0 rfl rfl) ?_
 refine o_call rfl cal61 rfl (clone8p (rds_own e8_ok 1 rfl) hn) ?_
 rintro _ _ ⟨a7, c7, rfl, rfl⟩
 refine o_assign rfl rfl ?_
 refine l_nil ?_
 refine q_then ?_
 refine c_ret ?_
 exact f_ret (r_one rfl rfl) (⟨a7, c7, rfl, rfl⟩) (fun w S => S)
theorem penByte {W : World} {F : List Res} {k : Nat} {xs : List UInt8} {a : Option Addr} {c : Nat} {v : UInt8} (hn : xs.length ≤ 70000000000000) : CS Try.prog 42 #[.pointer (some ⟨k, 0, none⟩), .int .u8 (v.toNat : Int)] W (blk k (.cells #[.slice a (xs).length c] 76 (0, 0)) :: row e8.T e8.sz a (xs).length c (flat e8 xs) :: F) (fun r L' => ∃ (a' : Option Addr) (c' : Nat), r = .tuple #[] ∧ L' = blk k (.cells #[.slice a' ((xs ++ [v])).length c'] 76 (0, 0)) :: row e8.T e8.sz a' ((xs ++ [v])).length c' (flat e8 (xs ++ [v])) :: F) := by
 refine f_door (l0 := [(0, .pointer (some ⟨k, 0, none⟩)), (1, .int .u8 (v.toNat : Int))]) Try.func42 Try.ntmps42 rfl rfl rfl ?_
 refine c_region ?_
 refine o_move rfl rfl ?_
 refine o_move rfl rfl ?_
 refine o_nil rfl rfl ?_
 refine o_fieldAddr (q := ⟨k, 0, none⟩) rfl rfl Try.underlying76 rfl ti23 rfl ?_
 refine o_load1 rfl rfl Try.underlying23 rfl (rd_mem 0 rfl rfl) ?_
 refine o_move rfl rfl ?_
 refine o_lit e8_ok rfl Try.underlying23 rfl rfl rfl (lit_ok rfl) [v] rfl rfl fun a10 => ?_
 refine l_f2 ?_
 refine o_append e8_ok rfl rfl rfl Try.underlying23 (rds_own e8_ok 1 rfl) (by show (_ + _) * 1 ≤ _; (try simp only [List.length_append, List.length_cons, List.length_nil]); omega) (by (try simp only [List.length_append, List.length_cons, List.length_nil]); omega) fun a11 c11 => ?_
 refine l_f1 ?_
 refine l_drop ?_
 refine o_nil rfl rfl ?_
 refine o_fieldAddr (q := ⟨k, 0, none⟩) rfl rfl Try.underlying76 rfl ti23 rfl ?_
 refine l_f1 ?_
 refine o_store1 rfl rfl rfl ti23 rfl rfl ?_
 refine l_nil ?_
 exact f_end (r_none rfl) (⟨a11, c11, rfl, rfl⟩) (fun w S => S)
theorem penText {W : World} {F : List Res} {k : Nat} {xs : List UInt8} {a : Option Addr} {c : Nat} {ts : List UInt8} {ta : Option Addr} {tc : Nat} (hs : RdS W F e8 ta ts) (ht : ts.length ≤ 70000000000000) (hn : xs.length ≤ 70000000000000) : CS Try.prog 41 #[.pointer (some ⟨k, 0, none⟩), .slice ta ts.length tc] W (blk k (.cells #[.slice a (xs).length c] 76 (0, 0)) :: row e8.T e8.sz a (xs).length c (flat e8 xs) :: F) (fun r L' => ∃ (a' : Option Addr) (c' : Nat), r = .tuple #[] ∧ L' = blk k (.cells #[.slice a' ((xs ++ numB ts.length ++ ts)).length c'] 76 (0, 0)) :: row e8.T e8.sz a' ((xs ++ numB ts.length ++ ts)).length c' (flat e8 (xs ++ numB ts.length ++ ts)) :: F) := by
 refine f_door (l0 := [(0, .pointer (some ⟨k, 0, none⟩)), (1, .slice ta ts.length tc)]) Try.func41 Try.ntmps41 rfl rfl rfl ?_
 refine c_seq ?_
 refine c_region ?_
 refine o_move rfl rfl ?_
 refine o_move rfl rfl ?_
 refine o_len rfl rfl Try.underlying23 ?_
 refine o_int rfl rfl Try.underlying3 Try.underlying34 (wrap_u64 (by omega) (by omega)) ?_
 refine l_f1 ?_
 refine l_f1 ?_
 refine o_call rfl cal39 rfl (penNum (v := ts.length) (by omega) (by omega)) ?_
 rintro _ _ ⟨a8, c8, rfl, rfl⟩
 have hnb := numB_len_le 10 ts.length (by omega) (by omega)
 refine l_nil ?_
 refine q_then ?_
 refine c_region ?_
 refine o_move rfl rfl ?_
 refine o_move rfl rfl ?_
 refine o_nil rfl rfl ?_
 refine o_fieldAddr (q := ⟨k, 0, none⟩) rfl rfl Try.underlying76 rfl ti23 rfl ?_
 refine o_load1 rfl rfl Try.underlying23 rfl (rd_mem 0 rfl rfl) ?_
 refine o_move rfl rfl ?_
 refine l_f1 ?_
 refine o_append e8_ok rfl rfl rfl Try.underlying23 (rds_c (rds_c hs)) (by show (_ + _) * 1 ≤ _; (try simp only [List.length_append, List.length_cons, List.length_nil]); omega) (by (try simp only [List.length_append, List.length_cons, List.length_nil]); omega) fun a15 c15 => ?_
 refine o_nil rfl rfl ?_
 refine o_fieldAddr (q := ⟨k, 0, none⟩) rfl rfl Try.underlying76 rfl ti23 rfl ?_
 refine l_f1 ?_
 refine o_store1 rfl rfl rfl ti23 rfl rfl ?_
 refine l_nil ?_
 exact f_end (r_none rfl) (⟨a15, c15, rfl, rfl⟩) (fun w S => S)
end
section
set_option linter.unusedVariables false
set_option linter.unusedSimpArgs false
open Go.RowKit Classical
def hasB (b : Bool) : UInt8 := if b = true then 1 else 0
def rowB (z : ByteArray × RecM) : List UInt8 := numB z.1.data.toList.length ++ z.1.data.toList ++ [hasB z.2.has] ++ (numB z.2.val.length ++ z.2.val) ++ numB z.2.home.toNat ++ numB z.2.count.toNat
def rowsB (M : Rows) : List UInt8 := M.flatMap rowB
def snapB (n : Int) (M : Rows) : List UInt8 := numB n.toNat ++ numB M.length ++ rowsB M
theorem nl10 {n : Nat} (h : n < 18446744073709551616) : (numB n).length ≤ 10 := numB_len_le 10 n (by omega) (by omega)
theorem rowB_len {n : Int} {z : ByteArray × RecM} (hn : n ≤ 3) (hk : z.1.size ≤ 1000000) (h : OkR n z.2) : (rowB z).length ≤ 2000050 := by
  have h1 := h.val
  have h2 : z.1.data.toList.length ≤ 1000000 := by rw [Array.length_toList]; exact hk
  have h3 := nl10 (n := z.1.data.toList.length) (by omega)
  have h4 := nl10 (n := z.2.val.length) (by omega)
  have hc : z.2.count ≤ 18446744073709551615 := h.cn
  have hc0 := h.c0
  have hh := h.hn
  have hh0 := h.h0
  have h5 := nl10 (n := z.2.count.toNat) (by omega)
  have h6 := nl10 (n := z.2.home.toNat) (by omega)
  unfold rowB
  simp only [List.length_append, List.length_cons, List.length_nil]
  omega
theorem rowsB_len {n : Int} {M : Rows} (hn : n ≤ 3) (h : ∀ z ∈ M, z.1.size ≤ 1000000 ∧ OkR n z.2) : (rowsB M).length ≤ 2000050 * M.length := by
  induction M with
  | nil => simp [rowsB]
  | cons z zs ih =>
    have h1 := rowB_len hn (h z (by simp)).1 (h z (by simp)).2
    have h2 := ih fun y hy => h y (List.mem_cons_of_mem _ hy)
    unfold rowsB at h2 ⊢
    rw [List.flatMap_cons, List.length_append, List.length_cons]
    omega
theorem rowsB_on {ys : List ItA} {i : Nat} {x : ItA} (hx : ys[i]? = some x) : rowsB ((ys.take (i + 1)).map proj) = rowsB ((ys.take i).map proj) ++ rowB (proj x) := by
  unfold rowsB
  rw [take_snoc' hx, List.map_append, List.flatMap_append]; simp
theorem rowB_x {x : ItA} : rowB (proj x) = numB x.f_key.data.toList.length ++ x.f_key.data.toList ++ [hasB x.f_value.f_Has] ++ (numB x.f_value.f_Value.xs.length ++ x.f_value.f_Value.xs) ++ numB x.f_value.f_Home.toNat ++ numB x.f_value.f_Count.toNat := rfl
/-- Rows that can be put into bytes. -/
structure Sized (s : SS) : Prop where
  ok : OkS s
  key : ∀ z ∈ s.M, z.1.size ≤ 1000000
  len : s.xs.length ≤ 100000
theorem Sized.mem {s : SS} (h : Sized s) : ∀ z ∈ s.M, z.1.size ≤ 1000000 ∧ OkR s.n z.2 := fun z hz => by
  refine ⟨h.key z hz, ?_⟩
  obtain ⟨x, hx, rfl⟩ := List.mem_map.1 hz
  exact h.ok.ok x hx
theorem Sized.part {s : SS} {ys : List ItA} (h : Sized s) (hy : ys.map proj = s.M) (i : Nat) : (rowsB ((ys.take i).map proj)).length ≤ 300000000000 := by
  have h1 := rowsB_len (M := (ys.take i).map proj) h.ok.n3 fun z hz => h.mem z (by rw [← hy]; obtain ⟨x, hx, rfl⟩ := List.mem_map.1 hz; exact List.mem_map.2 ⟨x, List.mem_of_mem_take hx, rfl⟩)
  have h2 : ((ys.take i).map proj).length ≤ 100000 := by
    rw [List.length_map, List.length_take]
    have := rows_len hy
    rw [M_len] at this
    have := h.len; omega
  omega
theorem Sized.row {s : SS} {ys : List ItA} {x : ItA} {i : Nat} (h : Sized s) (hy : ys.map proj = s.M) (hx : ys[i]? = some x) : x.f_key.data.toList.length ≤ 1000000 ∧ x.f_value.f_Value.xs.length ≤ 1000000 ∧ 0 ≤ x.f_value.f_Home ∧ x.f_value.f_Home < 3 ∧ 0 ≤ x.f_value.f_Count ∧ x.f_value.f_Count ≤ 18446744073709551615 := by
  have h1 := h.mem (proj x) (by rw [← hy]; exact List.mem_map.2 ⟨x, List.mem_of_getElem? hx, rfl⟩)
  have h2 := h.ok.n3
  have h3 : x.f_value.f_Home < s.n := h1.2.hn
  refine ⟨by rw [Array.length_toList]; exact h1.1, h1.2.val, h1.2.h0, by omega, h1.2.c0, h1.2.cn⟩
end
section
set_option linter.unusedVariables false
set_option linter.unusedSimpArgs false
set_option maxRecDepth 10000
open Go.RowKit Classical
set_option maxHeartbeats 4000000 in
theorem snap_ {W : World} {F : List Res} {k : Nat} {s : SS} (hz : Sized s) : CS Try.prog 25 #[.pointer (some ⟨k, 0, none⟩)] W (StR k s :: F) (fun r L' => ∃ (a' : Option Addr) (c' : Nat), r = .slice a' (snapB s.n s.M).length c' ∧ L' = row e8.T e8.sz a' ((snapB s.n s.M)).length c' (flat e8 (snapB s.n s.M)) :: StR k s :: F) := by
 refine f_door (l0 := [(0, .pointer (some ⟨k, 0, none⟩))]) Try.func25 Try.ntmps25 rfl rfl rfl ?_
 refine c_seq ?_
 refine c_region ?_
 refine o_assign rfl rfl ?_
 refine l_nil ?_
 refine q_then ?_
 refine c_seq ?_
 have hn1 := hz.ok.n1
 have hn3 := hz.ok.n3
 have hlz := hz.len
 have nn1 := nl10 (n := s.n.toNat) (by omega)
 have nn2 := nl10 (n := s.xs.length) (by omega)
 refine c_region ?_
 refine o_build rfl sp76 ti76 rfl rfl ?_
 refine o_box rfl rfl fun b8 => ?_
 refine l_nilrow e8 ?_
 refine l_conv (L' := blk b8 (.cells #[.slice none (([] : List UInt8)).length 0] 76 (0, 0)) :: row e8.T e8.sz none (([] : List UInt8)).length 0 (flat e8 ([] : List UInt8)) :: _) (fun w S => S.perm p1) ?_
 refine o_assign rfl rfl ?_
 refine l_nil ?_
 refine q_then ?_
 refine c_seq ?_
 refine c_conv (fun w S => S.perm p2) ?_
 refine c_obj ?_
 rintro t_1 ok_1
 refine c_conv (L' := blk k (.cells #[.int .i64 s.n, .pointer (some ⟨t_1, 0, none⟩)] 65 (0, 0)) :: treeR e_ItA eN99 103 105 ItA.f_key strlt t_1 s.xs :: vals s.xs :: _) (fun w S => S) ?_
 refine c_region ?_
 refine o_move rfl rfl ?_
 refine o_move rfl rfl ?_
 refine o_nil rfl rfl ?_
 refine o_fieldAddr (q := ⟨k, 0, none⟩) rfl rfl Try.underlying65 rfl ti3 rfl ?_
 refine o_load1 rfl rfl Try.underlying3 rfl (rd_mem 0 rfl rfl) ?_
 refine o_int rfl rfl Try.underlying3 Try.underlying34 (wrap_u64 (by omega) (by omega)) ?_
 refine l_eq (t := 14) (v' := .int .u64 (s.n.toNat : Int)) rfl (by exact congrArg (Value.int .u64) (Int.toNat_of_nonneg (by omega)).symm) ?_
 refine l_f4 ?_
 refine l_f4 ?_
 refine o_call rfl cal39 rfl (penNum (v := s.n.toNat) (by omega) (by (try simp only [List.length_append, List.length_cons, List.length_nil]); omega)) ?_
 rintro _ _ ⟨a15, c15, rfl, rfl⟩
 refine l_nil ?_
 refine q_then ?_
 refine c_seq ?_
 refine c_region ?_
 refine o_move rfl rfl ?_
 refine o_move rfl rfl ?_
 refine o_nil rfl rfl ?_
 refine o_fieldAddr (q := ⟨k, 1, none⟩) rfl rfl Try.underlying65 rfl ti62 rfl ?_
 refine o_load1 rfl rfl Try.underlying62 rfl (rd_mem 2 rfl rfl) ?_
 refine l_f3 ?_
 refine o_call rfl cal40 rfl (tlen_A) ?_
 rintro _ _ ⟨rfl, rfl⟩
 refine o_int rfl rfl Try.underlying3 Try.underlying34 (wrap_u64 (by omega) (by omega)) ?_
 refine l_f2 ?_
 refine l_f2 ?_
 refine o_call rfl cal39 rfl (penNum (v := s.xs.length) (by omega) (by (try simp only [List.length_append, List.length_cons, List.length_nil]); omega)) ?_
 rintro _ _ ⟨a23, c23, rfl, rfl⟩
 refine l_nil ?_
 refine q_then ?_
 refine c_seq ?_
 refine c_seq ?_
 refine c_region ?_
 refine o_move rfl rfl ?_
 refine l_conv (fun w S => S.perm p1) ?_
 refine l_conv (fun w S => S.perm p1) ?_
 refine l_conv (fun w S => S.perm p4) ?_
 refine l_conv (fun w S => S.perm p3) ?_
 refine l_conv (fun w S => S.perm p4) ?_
 refine l_conv (L' := StR k s :: _) (fun w S => Sat.obj_mk t_1 ok_1 S) ?_
 refine o_call rfl cal22 rfl (rows6_ (by have h9 := hz.len; omega)) ?_
 rintro _ _ ⟨ys25, a25, c25, hys25, rfl, rfl⟩
 have hyl : ys25.length = s.xs.length := by have h9 := rows_len hys25; rw [M_len] at h9; exact h9
 have nn3 := nl10 (n := ys25.length) (by omega)
 have hps := fun i => hz.part hys25 i
 refine o_len rfl rfl Try.underlying43 ?_
 refine o_move rfl rfl ?_
 refine l_nil ?_
 refine q_then ?_
 refine c_block ?_
 refine c_conv (fun w S => S.perm p2) ?_
 refine c_conv (fun w S => S.perm p2) ?_
 refine c_conv (fun w S => S.perm p2) ?_
 refine c_conv (fun w S => S.perm p4) ?_
 refine c_conv (fun w S => S.perm p4) ?_
 refine c_conv (L' := blk b8 (.cells #[.slice a23 (numB s.n.toNat ++ numB ys25.length ++ rowsB ((ys25.take 0).map proj)).length c23] 76 (0, 0)) :: row e8.T e8.sz a23 (numB s.n.toNat ++ numB ys25.length ++ rowsB ((ys25.take 0).map proj)).length c23 (flat e8 (numB s.n.toNat ++ numB ys25.length ++ rowsB ((ys25.take 0).map proj))) :: _) (fun w S => by rw [show (([] : List UInt8) ++ numB s.n.toNat) ++ numB s.xs.length = numB s.n.toNat ++ numB ys25.length ++ rowsB ((ys25.take 0).map proj) from by rw [hyl]; simp [rowsB]] at S; exact S) ?_
 refine c_loop (α := Nat × (Option Addr) × Nat) (fun z => [(3, .pointer (some ⟨b8, 0, none⟩)), (25, .slice a25 (ys25).length c25), (26, .int .i64 ((ys25).length : Int)), (27, .int .i64 (z.1 : Int))]) (fun z => blk b8 (.cells #[.slice z.2.1 (numB s.n.toNat ++ numB ys25.length ++ rowsB ((ys25.take z.1).map proj)).length z.2.2] 76 (0, 0)) :: row e8.T e8.sz z.2.1 (numB s.n.toNat ++ numB ys25.length ++ rowsB ((ys25.take z.1).map proj)).length z.2.2 (flat e8 (numB s.n.toNat ++ numB ys25.length ++ rowsB ((ys25.take z.1).map proj))) :: row e_Row.T e_Row.sz a25 (ys25).length c25 (flat e_Row ys25) :: vals ys25 :: StR k s :: F) (fun z => z.1 ≤ ys25.length) (fun z => ys25.length - z.1) (0, a23, c23) (by exact Nat.zero_le _) ⟨(by first | rfl | exact vint (by omega)), (by first | rfl | exact vint (by omega)), (by first | rfl | exact vint (by omega)), (by first | rfl | exact vint (by omega)), trivial⟩ (fun w S => S) ?_
 rintro ⟨i, a9, c9⟩ hi
 try dsimp only at *
 refine c_seq ?_
 refine c_region ?_
 refine o_bin rfl rfl rfl b_lss ?_
 refine l_nil ?_
 refine q_then ?_
 refine c_seq ?_
 refine c_cond rfl (fun h1 => ?_) (fun h1 => ?_)
 · -- h1T
  have h1b := h1
  try simp only [decide_eq_true_eq] at h1
  refine c_skip ?_
  refine q_then ?_
  refine c_seq ?_
  refine c_block ?_
  refine c_seq ?_
  refine c_region ?_
  refine o_index e_Row_ok rfl rfl rfl Try.underlying43 (by omega) (by omega) (rds_own e_Row_ok 2 rfl) fun ad29 ead29 => ?_
  obtain ⟨x29, hx29⟩ : ∃ x, (ys25)[((i : Int)).toNat]? = some x := ⟨_, List.getElem?_eq_getElem (by omega)⟩
  have hpi := hps i
  have hrw := hz.row hys25 (show ys25[i]? = some x29 from hx29)
  obtain ⟨z1, z2, z3, z4, z5, z6⟩ := hrw
  have n1 := nl10 (n := x29.f_key.data.toList.length) (by omega)
  have n2 := nl10 (n := x29.f_value.f_Value.xs.length) (by omega)
  have n3 := nl10 (n := x29.f_value.f_Home.toNat) (by omega)
  have n4 := nl10 (n := x29.f_value.f_Count.toNat) (by omega)
  refine o_loadn (vs := e_Row.cells x29) rfl rfl Try.underlying49 rfl ti49 (rdn_sl e_Row_ok ead29 (rds_own e_Row_ok 2 rfl) hx29) ?_
  refine o_alloc rfl ti49 fun b5 => ?_
  refine o_storen rfl rfl ti49 rfl rfl rfl rfl ?_
  refine l_nil ?_
  refine q_then ?_
  refine c_seq ?_
  refine c_region ?_
  refine o_move rfl rfl ?_
  refine o_fieldAddr (q := ⟨b5, 0, none⟩) rfl rfl Try.underlying49 rfl ti9 rfl ?_
  refine o_load1 rfl rfl Try.underlying9 rfl (rd_mem 0 rfl rfl) ?_
  refine o_strBytes (e := e8) rfl rfl rfl rfl Try.underlying9 Try.underlying23 Try.underlying5 fun a34 c34 hc34 => ?_
  refine l_f3 ?_
  refine l_f3 ?_
  refine l_f1 ?_
  refine l_f1 ?_
  refine o_call rfl cal41 rfl (penText (rds_mrow e8_ok 0 rfl) (by (try simp only [List.length_append, List.length_cons, List.length_nil]); omega) (by (try simp only [List.length_append, List.length_cons, List.length_nil]); omega)) ?_
  rintro _ _ ⟨a35, c35, rfl, rfl⟩
  refine l_nil ?_
  refine q_then ?_
  refine c_seq ?_
  refine c_region ?_
  refine o_assign rfl rfl ?_
  refine l_nil ?_
  refine q_then ?_
  refine c_seq ?_
  refine c_seq ?_
  refine c_region ?_
  refine o_fieldAddr (q := ⟨b5, 1, none⟩) rfl rfl Try.underlying49 rfl ti36 rfl ?_
  refine o_fieldAddr (q := ⟨b5, 1, none⟩) rfl rfl Try.underlying36 rfl ti4 rfl ?_
  refine o_load1 rfl rfl Try.underlying4 rfl (rd_mem 3 rfl rfl) ?_
  refine l_nil ?_
  refine q_then ?_
  refine c_cond rfl (fun h2 => ?_) (fun h2 => ?_)
  · -- h2T
   have h2b := h2
   try simp only [decide_eq_true_eq, decide_eq_false_iff_not, Bool.not_eq_eq_eq_not, Bool.not_true, Bool.not_false, Bool.not_eq_true', Bool.not_eq_false', Int.not_lt, Int.not_le, Bool.or_eq_true, Bool.and_eq_true] at h2
   refine c_region ?_
   refine o_assign rfl rfl ?_
   refine l_nil ?_
   refine q_then ?_
   refine c_seq ?_
   refine c_region ?_
   refine o_move rfl rfl ?_
   refine o_move rfl rfl ?_
   refine l_eq (t := 40) (v' := .int .u8 ((hasB x29.f_value.f_Has).toNat : Int)) rfl (by rw [show x29.f_value.f_Has = true by assumption]; rfl) ?_
   refine l_f1 ?_
   refine l_f1 ?_
   refine o_call rfl cal42 rfl (penByte (v := hasB x29.f_value.f_Has) (by (try simp only [List.length_append, List.length_cons, List.length_nil]); omega)) ?_
   rintro _ _ ⟨a41, c41, rfl, rfl⟩
   refine l_nil ?_
   refine q_then ?_
   refine c_seq ?_
   refine c_region ?_
   refine o_move rfl rfl ?_
   refine o_fieldAddr (q := ⟨b5, 1, none⟩) rfl rfl Try.underlying49 rfl ti36 rfl ?_
   refine o_fieldAddr (q := ⟨b5, 2, none⟩) rfl rfl Try.underlying36 rfl ti23 rfl ?_
   refine o_load1 rfl rfl Try.underlying23 rfl (rd_mem 3 rfl rfl) ?_
   refine l_f1 ?_
   refine l_f1 ?_
   refine l_f1 ?_
   refine l_f1 ?_
   refine o_call rfl cal41 rfl (penText ((fun x hx => rds_vals 3 rfl hx) x29 (List.mem_of_getElem? hx29)) (by (try simp only [List.length_append, List.length_cons, List.length_nil]); omega) (by (try simp only [List.length_append, List.length_cons, List.length_nil]); omega)) ?_
   rintro _ _ ⟨a46, c46, rfl, rfl⟩
   refine l_nil ?_
   refine q_then ?_
   refine c_seq ?_
   refine c_region ?_
   refine o_move rfl rfl ?_
   refine o_fieldAddr (q := ⟨b5, 1, none⟩) rfl rfl Try.underlying49 rfl ti36 rfl ?_
   refine o_fieldAddr (q := ⟨b5, 3, none⟩) rfl rfl Try.underlying36 rfl ti3 rfl ?_
   refine o_load1 rfl rfl Try.underlying3 rfl (rd_mem 3 rfl rfl) ?_
   refine o_int rfl rfl Try.underlying3 Try.underlying34 (wrap_u64 (by omega) (by omega)) ?_
   refine l_eq (t := 51) (v' := .int .u64 (x29.f_value.f_Home.toNat : Int)) rfl (by exact congrArg (Value.int .u64) (Int.toNat_of_nonneg z3).symm) ?_
   refine l_f1 ?_
   refine l_f1 ?_
   refine o_call rfl cal39 rfl (penNum (v := x29.f_value.f_Home.toNat) (by omega) (by (try simp only [List.length_append, List.length_cons, List.length_nil]); omega)) ?_
   rintro _ _ ⟨a52, c52, rfl, rfl⟩
   refine l_nil ?_
   refine q_then ?_
   refine c_region ?_
   refine o_move rfl rfl ?_
   refine o_fieldAddr (q := ⟨b5, 1, none⟩) rfl rfl Try.underlying49 rfl ti36 rfl ?_
   refine o_fieldAddr (q := ⟨b5, 4, none⟩) rfl rfl Try.underlying36 rfl ti34 rfl ?_
   refine o_load1 rfl rfl Try.underlying34 rfl (rd_mem 3 rfl rfl) ?_
   refine l_eq (t := 56) (v' := .int .u64 (x29.f_value.f_Count.toNat : Int)) rfl (by exact congrArg (Value.int .u64) (Int.toNat_of_nonneg z5).symm) ?_
   refine l_f1 ?_
   refine l_f1 ?_
   refine o_call rfl cal39 rfl (penNum (v := x29.f_value.f_Count.toNat) (by omega) (by (try simp only [List.length_append, List.length_cons, List.length_nil]); omega)) ?_
   rintro _ _ ⟨a57, c57, rfl, rfl⟩
   refine l_nil ?_
   refine q_block ?_
   refine q_then ?_
   refine c_region ?_
   refine o_bin rfl rfl rfl (b_add (wrap_i64 (by omega) (by omega))) ?_
   refine o_move rfl rfl ?_
   refine l_nil ?_
   refine q_conv (L' := blk b8 (.cells #[.slice a57 (numB s.n.toNat ++ numB ys25.length ++ rowsB ((ys25.take (i + 1)).map proj)).length c57] 76 (0, 0)) :: row e8.T e8.sz a57 (numB s.n.toNat ++ numB ys25.length ++ rowsB ((ys25.take (i + 1)).map proj)).length c57 (flat e8 (numB s.n.toNat ++ numB ys25.length ++ rowsB ((ys25.take (i + 1)).map proj))) :: _) (fun w S => by rw [show numB s.n.toNat ++ numB ys25.length ++ rowsB ((ys25.take i).map proj) ++ numB x29.f_key.data.toList.length ++ x29.f_key.data.toList ++ [hasB x29.f_value.f_Has] ++ numB x29.f_value.f_Value.xs.length ++ x29.f_value.f_Value.xs ++ numB x29.f_value.f_Home.toNat ++ numB x29.f_value.f_Count.toNat = numB s.n.toNat ++ numB ys25.length ++ rowsB ((ys25.take (i + 1)).map proj) from by rw [rowsB_on (show ys25[i]? = some x29 from hx29), rowB_x]; simp only [List.append_assoc]] at S; exact S) ?_
   refine q_conv (fun w S => (S.perm p2).tail) ?_
   refine q_conv (fun w S => (S.perm p2).tail) ?_
   exact q_round (i + 1, a57, c57) (by (try dsimp only); omega) (by (try dsimp only); omega) ⟨(by first | rfl | exact vint (by omega)), (by first | rfl | exact vint (by omega)), (by first | rfl | exact vint (by omega)), (by first | rfl | exact vint (by omega)), trivial⟩ (fun w S => S)
  · -- h2F
   have h2b := h2
   try simp only [decide_eq_true_eq, decide_eq_false_iff_not, Bool.not_eq_eq_eq_not, Bool.not_true, Bool.not_false, Bool.not_eq_true', Bool.not_eq_false', Int.not_lt, Int.not_le, Bool.or_eq_true, Bool.and_eq_true] at h2
   refine c_skip ?_
   refine q_then ?_
   refine c_seq ?_
   refine c_region ?_
   refine o_move rfl rfl ?_
   refine o_move rfl rfl ?_
   refine l_eq (t := 40) (v' := .int .u8 ((hasB x29.f_value.f_Has).toNat : Int)) rfl (by rw [show x29.f_value.f_Has = false by assumption]; rfl) ?_
   refine l_f1 ?_
   refine l_f1 ?_
   refine o_call rfl cal42 rfl (penByte (v := hasB x29.f_value.f_Has) (by (try simp only [List.length_append, List.length_cons, List.length_nil]); omega)) ?_
   rintro _ _ ⟨a41, c41, rfl, rfl⟩
   refine l_nil ?_
   refine q_then ?_
   refine c_seq ?_
   refine c_region ?_
   refine o_move rfl rfl ?_
   refine o_fieldAddr (q := ⟨b5, 1, none⟩) rfl rfl Try.underlying49 rfl ti36 rfl ?_
   refine o_fieldAddr (q := ⟨b5, 2, none⟩) rfl rfl Try.underlying36 rfl ti23 rfl ?_
   refine o_load1 rfl rfl Try.underlying23 rfl (rd_mem 3 rfl rfl) ?_
   refine l_f1 ?_
   refine l_f1 ?_
   refine l_f1 ?_
   refine l_f1 ?_
   refine o_call rfl cal41 rfl (penText ((fun x hx => rds_vals 3 rfl hx) x29 (List.mem_of_getElem? hx29)) (by (try simp only [List.length_append, List.length_cons, List.length_nil]); omega) (by (try simp only [List.length_append, List.length_cons, List.length_nil]); omega)) ?_
   rintro _ _ ⟨a46, c46, rfl, rfl⟩
   refine l_nil ?_
   refine q_then ?_
   refine c_seq ?_
   refine c_region ?_
   refine o_move rfl rfl ?_
   refine o_fieldAddr (q := ⟨b5, 1, none⟩) rfl rfl Try.underlying49 rfl ti36 rfl ?_
   refine o_fieldAddr (q := ⟨b5, 3, none⟩) rfl rfl Try.underlying36 rfl ti3 rfl ?_
   refine o_load1 rfl rfl Try.underlying3 rfl (rd_mem 3 rfl rfl) ?_
   refine o_int rfl rfl Try.underlying3 Try.underlying34 (wrap_u64 (by omega) (by omega)) ?_
   refine l_eq (t := 51) (v' := .int .u64 (x29.f_value.f_Home.toNat : Int)) rfl (by exact congrArg (Value.int .u64) (Int.toNat_of_nonneg z3).symm) ?_
   refine l_f1 ?_
   refine l_f1 ?_
   refine o_call rfl cal39 rfl (penNum (v := x29.f_value.f_Home.toNat) (by omega) (by (try simp only [List.length_append, List.length_cons, List.length_nil]); omega)) ?_
   rintro _ _ ⟨a52, c52, rfl, rfl⟩
   refine l_nil ?_
   refine q_then ?_
   refine c_region ?_
   refine o_move rfl rfl ?_
   refine o_fieldAddr (q := ⟨b5, 1, none⟩) rfl rfl Try.underlying49 rfl ti36 rfl ?_
   refine o_fieldAddr (q := ⟨b5, 4, none⟩) rfl rfl Try.underlying36 rfl ti34 rfl ?_
   refine o_load1 rfl rfl Try.underlying34 rfl (rd_mem 3 rfl rfl) ?_
   refine l_eq (t := 56) (v' := .int .u64 (x29.f_value.f_Count.toNat : Int)) rfl (by exact congrArg (Value.int .u64) (Int.toNat_of_nonneg z5).symm) ?_
   refine l_f1 ?_
   refine l_f1 ?_
   refine o_call rfl cal39 rfl (penNum (v := x29.f_value.f_Count.toNat) (by omega) (by (try simp only [List.length_append, List.length_cons, List.length_nil]); omega)) ?_
   rintro _ _ ⟨a57, c57, rfl, rfl⟩
   refine l_nil ?_
   refine q_block ?_
   refine q_then ?_
   refine c_region ?_
   refine o_bin rfl rfl rfl (b_add (wrap_i64 (by omega) (by omega))) ?_
   refine o_move rfl rfl ?_
   refine l_nil ?_
   refine q_conv (L' := blk b8 (.cells #[.slice a57 (numB s.n.toNat ++ numB ys25.length ++ rowsB ((ys25.take (i + 1)).map proj)).length c57] 76 (0, 0)) :: row e8.T e8.sz a57 (numB s.n.toNat ++ numB ys25.length ++ rowsB ((ys25.take (i + 1)).map proj)).length c57 (flat e8 (numB s.n.toNat ++ numB ys25.length ++ rowsB ((ys25.take (i + 1)).map proj))) :: _) (fun w S => by rw [show numB s.n.toNat ++ numB ys25.length ++ rowsB ((ys25.take i).map proj) ++ numB x29.f_key.data.toList.length ++ x29.f_key.data.toList ++ [hasB x29.f_value.f_Has] ++ numB x29.f_value.f_Value.xs.length ++ x29.f_value.f_Value.xs ++ numB x29.f_value.f_Home.toNat ++ numB x29.f_value.f_Count.toNat = numB s.n.toNat ++ numB ys25.length ++ rowsB ((ys25.take (i + 1)).map proj) from by rw [rowsB_on (show ys25[i]? = some x29 from hx29), rowB_x]; simp only [List.append_assoc]] at S; exact S) ?_
   refine q_conv (fun w S => (S.perm p2).tail) ?_
   refine q_conv (fun w S => (S.perm p2).tail) ?_
   exact q_round (i + 1, a57, c57) (by (try dsimp only); omega) (by (try dsimp only); omega) ⟨(by first | rfl | exact vint (by omega)), (by first | rfl | exact vint (by omega)), (by first | rfl | exact vint (by omega)), (by first | rfl | exact vint (by omega)), trivial⟩ (fun w S => S)
 · -- h1F
  have h1b := h1
  try simp only [decide_eq_false_iff_not, Int.not_lt, Int.not_le] at h1
  refine c_exit ?_
  refine q_pass_exit ?_
  refine q_pass_exit ?_
  refine q_hit ?_
  refine q_then ?_
  refine c_seq ?_
  have hfin : numB s.n.toNat ++ numB ys25.length ++ rowsB ((ys25.take i).map proj) = (snapB s.n s.M) := by rw [List.take_of_length_le (by omega), hys25]; unfold snapB; rw [M_len, hyl]
  have hpi := hps i
  refine c_region ?_
  refine o_move rfl rfl ?_
  refine l_f1 ?_
  refine l_f1 ?_
  refine o_call rfl cal43 rfl (penData (by (try simp only [List.length_append, List.length_cons, List.length_nil]); omega)) ?_
  rintro _ _ ⟨a60, c60, rfl, rfl⟩
  refine o_assign rfl rfl ?_
  refine l_nil ?_
  refine q_then ?_
  refine c_ret ?_
  refine q_conv (fun w S => (S.perm p1).tail) ?_
  refine q_conv (fun w S => (S.perm p1).tail) ?_
  refine q_conv (fun w S => (S.perm p1).tail) ?_
  refine q_conv (fun w S => (S.perm p1).tail) ?_
  exact f_ret (r_one rfl rfl) (⟨a60, c60, (by rw [hfin]), rfl⟩) (fun w S => by rw [hfin] at S; exact S)
end
section
set_option linter.unusedVariables false
set_option linter.unusedSimpArgs false
set_option maxRecDepth 10000
open Go.RowKit Classical
theorem rNum {W : World} {F : List Res} {v : Nat} (hv : v < 18446744073709551616) : CS Try.prog 44 #[.int .u64 (v : Int)] W (F) (fun r L' => ∃ (a' : Option Addr) (c' : Nat), r = .slice a' (numB v).length c' ∧ L' = row e8.T e8.sz a' (numB v).length c' (flat e8 (numB v)) :: F) := by
 refine f_door (l0 := [(0, .int .u64 (v : Int))]) Try.func44 Try.ntmps44 rfl rfl rfl ?_
 refine c_seq ?_
 refine c_region ?_
 refine o_assign rfl rfl ?_
 refine l_nil ?_
 refine q_then ?_
 refine c_seq ?_
 refine c_region ?_
 refine o_lit e8_ok rfl Try.underlying23 rfl rfl rfl (lit_ok rfl) ([] : List UInt8) rfl rfl fun a5 => ?_
 refine o_assign rfl rfl ?_
 refine l_nil ?_
 refine q_then ?_
 refine c_seq ?_
 refine c_region ?_
 refine o_move rfl rfl ?_
 refine o_assign rfl rfl ?_
 refine l_nil ?_
 refine q_then ?_
 refine c_seq ?_
 refine c_block ?_
 refine c_loop (α := Nat × (List UInt8) × (Option Addr) × Nat) (fun z => [(3, .slice z.2.2.1 z.2.1.length z.2.2.2), (4, .int .u64 (z.1 : Int))]) (fun z => row e8.T e8.sz z.2.2.1 (z.2.1).length z.2.2.2 (flat e8 z.2.1) :: F) (fun z => z.2.1 ++ numB z.1 = numB v ∧ z.1 < 18446744073709551616 ∧ z.2.1.length + (numB z.1).length ≤ 10) (fun z => z.1) (v, [], a5, 0) (by exact ⟨rfl, hv, by have := numB_len_le 10 v (by omega) (by omega); simp; omega⟩) ⟨(by first | rfl | exact vint (by omega)), (by first | rfl | exact vint (by omega)), trivial⟩ (fun w S => S) ?_
 rintro ⟨u, ys, a, c⟩ ⟨hq, hu, hl⟩
 try dsimp only at *
 have hnp := numB_pos u
 refine c_seq ?_
 refine c_seq ?_
 refine c_region ?_
 refine o_move rfl rfl ?_
 refine o_bin rfl rfl rfl b_geq ?_
 refine l_nil ?_
 refine q_then ?_
 refine c_cond rfl (fun h1 => ?_) (fun h1 => ?_)
 · -- h1T
  try simp only [decide_eq_true_eq, decide_eq_false_iff_not, Bool.not_eq_eq_eq_not, Bool.not_true, Bool.not_false, Bool.not_eq_true', Bool.not_eq_false', Int.not_lt, Int.not_le, Bool.or_eq_true, Bool.and_eq_true] at h1
  refine c_skip ?_
  refine q_then ?_
  refine c_block ?_
  refine c_seq ?_
  refine c_region ?_
  refine o_move rfl rfl ?_
  refine o_move rfl rfl ?_
  refine o_bin rfl rfl rfl (b_rem (by omega) (tmod128 u)) ?_
  refine o_bin rfl rfl rfl (b_add (addlow u)) ?_
  refine o_int rfl rfl Try.underlying34 Try.underlying5 (cv8 _) ?_
  refine o_lit e8_ok rfl Try.underlying23 rfl rfl rfl (lit_ok rfl) [UInt8.ofNat (u % 128 + 128)] rfl rfl fun a14 => ?_
  refine l_f1 ?_
  refine o_append e8_ok rfl rfl rfl Try.underlying23 (rds_own e8_ok 1 rfl) (by show (_ + _) * 1 ≤ _; (try simp only [List.length_append, List.length_cons, List.length_nil]); omega) (by (try simp only [List.length_append, List.length_cons, List.length_nil]); omega) fun a15 c15 => ?_
  refine l_f1 ?_
  refine l_drop ?_
  refine o_assign rfl rfl ?_
  refine l_nil ?_
  refine q_then ?_
  refine c_region ?_
  refine o_move rfl rfl ?_
  refine o_bin rfl rfl rfl (b_quo (by omega) (tdiv128 hu)) ?_
  refine o_assign rfl rfl ?_
  refine l_nil ?_
  refine q_block ?_
  exact q_round (u / 128, ys ++ [UInt8.ofNat (u % 128 + 128)], a15, c15) (by have h9 := numB_ge (n := u) (by omega); exact ⟨by rw [← hq, h9, add_low]; simp, by omega, by rw [h9] at hl; simp only [List.length_append, List.length_cons, List.length_nil] at hl ⊢; omega⟩) (by (try dsimp only); omega) ⟨(by first | rfl | exact vint (by omega)), (by first | rfl | exact vint (by omega)), trivial⟩ (fun w S => S)
 · -- h1F
  try simp only [decide_eq_true_eq, decide_eq_false_iff_not, Bool.not_eq_eq_eq_not, Bool.not_true, Bool.not_false, Bool.not_eq_true', Bool.not_eq_false', Int.not_lt, Int.not_le, Bool.or_eq_true, Bool.and_eq_true] at h1
  have hq' : ys ++ [UInt8.ofNat u] = numB v := by rw [← hq, numB_lt (by omega)]
  refine c_exit ?_
  refine q_pass_exit ?_
  refine q_pass_exit ?_
  refine q_hit ?_
  refine q_then ?_
  refine c_seq ?_
  refine c_region ?_
  refine o_move rfl rfl ?_
  refine o_move rfl rfl ?_
  refine o_int rfl rfl Try.underlying34 Try.underlying5 (cv8 u) ?_
  refine o_lit e8_ok rfl Try.underlying23 rfl rfl rfl (lit_ok rfl) [UInt8.ofNat u] rfl rfl fun a21 => ?_
  refine l_f1 ?_
  refine o_append e8_ok rfl rfl rfl Try.underlying23 (rds_own e8_ok 1 rfl) (by show (_ + _) * 1 ≤ _; (try simp only [List.length_append, List.length_cons, List.length_nil]); omega) (by (try simp only [List.length_append, List.length_cons, List.length_nil]); omega) fun a22 c22 => ?_
  refine l_f1 ?_
  refine l_drop ?_
  refine o_assign rfl rfl ?_
  refine l_nil ?_
  refine q_then ?_
  refine c_ret ?_
  exact f_ret (r_one rfl rfl) (⟨a22, c22, by rw [← hq'], by rw [← hq']⟩) (fun w S => S)
theorem rText {W : World} {F : List Res} {ts : List UInt8} {ta : Option Addr} {tc : Nat} (hs : RdS W F e8 ta ts) (ht : ts.length ≤ 70000000000000) : CS Try.prog 45 #[.slice ta ts.length tc] W (F) (fun r L' => ∃ (a' : Option Addr) (c' : Nat), r = .slice a' ((numB ts.length ++ ts)).length c' ∧ L' = row e8.T e8.sz a' ((numB ts.length ++ ts)).length c' (flat e8 (numB ts.length ++ ts)) :: F) := by
 have hnb := numB_len_le 10 ts.length (by omega) (by omega)
 refine f_door (l0 := [(0, .slice ta ts.length tc)]) Try.func45 Try.ntmps45 rfl rfl rfl ?_
 refine c_seq ?_
 refine c_region ?_
 refine o_assign rfl rfl ?_
 refine l_nil ?_
 refine q_then ?_
 refine c_seq ?_
 refine c_region ?_
 refine o_move rfl rfl ?_
 refine o_len rfl rfl Try.underlying23 ?_
 refine o_int rfl rfl Try.underlying3 Try.underlying34 (wrap_u64 (by omega) (by omega)) ?_
 refine o_call rfl cal44 rfl (rNum (v := ts.length) (by omega)) ?_
 rintro _ _ ⟨a6, c6, rfl, rfl⟩
 refine o_move rfl rfl ?_
 refine o_append e8_ok rfl rfl rfl Try.underlying23 (rds_c hs) (by show (_ + _) * 1 ≤ _; (try simp only [List.length_append, List.length_cons, List.length_nil]); omega) (by (try simp only [List.length_append, List.length_cons, List.length_nil]); omega) fun a8 c8 => ?_
 refine o_assign rfl rfl ?_
 refine l_nil ?_
 refine q_then ?_
 refine c_ret ?_
 exact f_ret (r_one rfl rfl) (⟨a8, c8, rfl, rfl⟩) (fun w S => S)
end
section
set_option linter.unusedVariables false
set_option linter.unusedSimpArgs false
set_option maxRecDepth 10000
open Go.RowKit Classical
set_option maxHeartbeats 4000000 in
theorem rsnap_ {W : World} {F : List Res} {m : Nat} {s : SS} (hz : Sized s) : CS Try.prog 26 #[.pointer (some ⟨m, 0, none⟩)] W (RfR m s :: F) (fun r L' => ∃ (a' : Option Addr) (c' : Nat), r = .slice a' (snapB s.n s.M).length c' ∧ L' = row e8.T e8.sz a' ((snapB s.n s.M)).length c' (flat e8 (snapB s.n s.M)) :: RfR m s :: F) := by
 refine f_door (l0 := [(0, .pointer (some ⟨m, 0, none⟩))]) Try.func26 Try.ntmps26 rfl rfl rfl ?_
 refine c_seq ?_
 refine c_region ?_
 refine o_assign rfl rfl ?_
 refine l_nil ?_
 refine q_then ?_
 refine c_seq ?_
 refine c_obj ?_
 rintro ⟨a_1, c_1⟩ ok_1
 refine c_conv (L' := blk m (.cells #[.int .i64 s.n, .slice a_1 (s.xs).length c_1] 54 (0, 0)) :: row e_Row.T e_Row.sz a_1 (s.xs).length c_1 (flat e_Row s.xs) :: vals s.xs :: _) (fun w S => S) ?_
 have hn1 := hz.ok.n1
 have hn3 := hz.ok.n3
 have hlz := hz.len
 have nn1 := nl10 (n := s.n.toNat) (by omega)
 have nn2 := nl10 (n := s.xs.length) (by omega)
 refine c_heldF [] (blk m (.cells #[.int .i64 s.n, .slice a_1 (s.xs).length c_1] 54 (0, 0)) :: row e_Row.T e_Row.sz a_1 (s.xs).length c_1 (flat e_Row s.xs) :: vals s.xs :: F) (by kernel_rfl) ?_
 refine h_take 0 rfl rfl (by kernel_rfl) (by kernel_rfl) (by kernel_rfl) (fun L0 => v_move rfl rfl) ?_
 refine h_take 1 rfl rfl (by kernel_rfl) (by kernel_rfl) (by kernel_rfl) (fun L0 => v_nil rfl rfl) ?_
 refine h_take 2 rfl rfl (by kernel_rfl) (by kernel_rfl) (by kernel_rfl) (fun L0 => v_fieldAddr (q := ⟨m, 0, none⟩) rfl rfl Try.underlying54 rfl ti3 rfl) ?_
 refine h_take 3 rfl rfl (by kernel_rfl) (by kernel_rfl) (by kernel_rfl) (fun L0 => v_load1 rfl rfl Try.underlying3 rfl (rd_mem 0 rfl rfl)) ?_
 refine h_take 4 rfl rfl (by kernel_rfl) (by kernel_rfl) (by kernel_rfl) (fun L0 => v_int rfl rfl Try.underlying3 Try.underlying34 (wrap_u64 (by omega) (by omega))) ?_
 refine h_eq (t := 11) (v' := .int .u64 (s.n.toNat : Int)) rfl (by exact congrArg (Value.int .u64) (Int.toNat_of_nonneg (by omega)).symm) ?_
 refine h_take 6 rfl rfl (by kernel_rfl) (by kernel_rfl) (by kernel_rfl) (fun L0 => v_move rfl rfl) ?_
 refine h_take 7 rfl rfl (by kernel_rfl) (by kernel_rfl) (by kernel_rfl) (fun L0 => v_nil rfl rfl) ?_
 refine h_take 8 rfl rfl (by kernel_rfl) (by kernel_rfl) (by kernel_rfl) (fun L0 => v_fieldAddr (q := ⟨m, 1, none⟩) rfl rfl Try.underlying54 rfl ti43 rfl) ?_
 refine h_take 9 rfl rfl (by kernel_rfl) (by kernel_rfl) (by kernel_rfl) (fun L0 => v_load1 rfl rfl Try.underlying43 rfl (rd_mem 0 rfl rfl)) ?_
 refine h_take 10 rfl rfl (by kernel_rfl) (by kernel_rfl) (by kernel_rfl) (fun L0 => v_len rfl rfl Try.underlying43) ?_
 refine h_take 11 rfl rfl (by kernel_rfl) (by kernel_rfl) (by kernel_rfl) (fun L0 => v_int rfl rfl Try.underlying3 Try.underlying34 (wrap_u64 (by omega) (by omega))) ?_
 refine h_one 5 rfl (by kernel_rfl) ?_
 refine l_conv (L' := blk m (.cells #[.int .i64 s.n, .slice a_1 (s.xs).length c_1] 54 (0, 0)) :: row e_Row.T e_Row.sz a_1 (s.xs).length c_1 (flat e_Row s.xs) :: vals s.xs :: F) (fun w S => S.perm List.perm_append_comm) ?_
 refine o_call rfl cal44 rfl (rNum (v := s.n.toNat) (by omega)) ?_
 rintro _ _ ⟨a12, c12, rfl, rfl⟩
 refine l_nil ?_
 refine q_conv (L' := (blk m (.cells #[.int .i64 s.n, .slice a_1 (s.xs).length c_1] 54 (0, 0)) :: row e_Row.T e_Row.sz a_1 (s.xs).length c_1 (flat e_Row s.xs) :: vals s.xs :: F) ++ [row e8.T e8.sz a12 ((numB s.n.toNat)).length c12 (flat e8 (numB s.n.toNat))]) (fun w S => S.perm (List.perm_append_comm (l₁ := [row e8.T e8.sz a12 ((numB s.n.toNat)).length c12 (flat e8 (numB s.n.toNat))]) (l₂ := blk m (.cells #[.int .i64 s.n, .slice a_1 (s.xs).length c_1] 54 (0, 0)) :: row e_Row.T e_Row.sz a_1 (s.xs).length c_1 (flat e_Row s.xs) :: vals s.xs :: F))) ?_
 refine h_next ?_
 refine h_one 12 rfl (by kernel_rfl) ?_
 refine l_conv (L' := row e8.T e8.sz a12 ((numB s.n.toNat)).length c12 (flat e8 (numB s.n.toNat)) :: blk m (.cells #[.int .i64 s.n, .slice a_1 (s.xs).length c_1] 54 (0, 0)) :: row e_Row.T e_Row.sz a_1 (s.xs).length c_1 (flat e_Row s.xs) :: vals s.xs :: F) (fun w S => S.perm List.perm_append_comm) ?_
 refine o_call rfl cal44 rfl (rNum (v := s.xs.length) (by omega)) ?_
 rintro _ _ ⟨a19, c19, rfl, rfl⟩
 refine l_nil ?_
 refine q_conv (L' := (blk m (.cells #[.int .i64 s.n, .slice a_1 (s.xs).length c_1] 54 (0, 0)) :: row e_Row.T e_Row.sz a_1 (s.xs).length c_1 (flat e_Row s.xs) :: vals s.xs :: F) ++ [row e8.T e8.sz a19 ((numB s.xs.length)).length c19 (flat e8 (numB s.xs.length)), row e8.T e8.sz a12 ((numB s.n.toNat)).length c12 (flat e8 (numB s.n.toNat))]) (fun w S => S.perm (List.perm_append_comm (l₁ := [row e8.T e8.sz a19 ((numB s.xs.length)).length c19 (flat e8 (numB s.xs.length)), row e8.T e8.sz a12 ((numB s.n.toNat)).length c12 (flat e8 (numB s.n.toNat))]) (l₂ := blk m (.cells #[.int .i64 s.n, .slice a_1 (s.xs).length c_1] 54 (0, 0)) :: row e_Row.T e_Row.sz a_1 (s.xs).length c_1 (flat e_Row s.xs) :: vals s.xs :: F))) ?_
 refine h_next ?_
 refine h_one 13 rfl (by kernel_rfl) ?_
 refine l_conv (L' := row e8.T e8.sz a19 ((numB s.xs.length)).length c19 (flat e8 (numB s.xs.length)) :: row e8.T e8.sz a12 ((numB s.n.toNat)).length c12 (flat e8 (numB s.n.toNat)) :: blk m (.cells #[.int .i64 s.n, .slice a_1 (s.xs).length c_1] 54 (0, 0)) :: row e_Row.T e_Row.sz a_1 (s.xs).length c_1 (flat e_Row s.xs) :: vals s.xs :: F) (fun w S => S.perm List.perm_append_comm) ?_
 refine l_f1 ?_
 refine o_append e8_ok rfl rfl rfl Try.underlying23 (rds_own e8_ok 1 rfl) (by show (_ + _) * 1 ≤ _; (try simp only [List.length_append, List.length_cons, List.length_nil]); omega) (by (try simp only [List.length_append, List.length_cons, List.length_nil]); omega) fun a20 c20 => ?_
 refine l_f1 ?_
 refine l_drop ?_
 refine l_nil ?_
 refine q_conv (L' := (blk m (.cells #[.int .i64 s.n, .slice a_1 (s.xs).length c_1] 54 (0, 0)) :: row e_Row.T e_Row.sz a_1 (s.xs).length c_1 (flat e_Row s.xs) :: vals s.xs :: F) ++ [row e8.T e8.sz a20 ((numB s.n.toNat) ++ (numB s.xs.length)).length c20 (flat e8 ((numB s.n.toNat) ++ (numB s.xs.length)))]) (fun w S => S.perm (List.perm_append_comm (l₁ := [row e8.T e8.sz a20 ((numB s.n.toNat) ++ (numB s.xs.length)).length c20 (flat e8 ((numB s.n.toNat) ++ (numB s.xs.length)))]) (l₂ := blk m (.cells #[.int .i64 s.n, .slice a_1 (s.xs).length c_1] 54 (0, 0)) :: row e_Row.T e_Row.sz a_1 (s.xs).length c_1 (flat e_Row s.xs) :: vals s.xs :: F))) ?_
 refine h_next ?_
 refine h_take 14 rfl rfl (by kernel_rfl) (by kernel_rfl) (by kernel_rfl) (fun L0 => v_assign rfl rfl) ?_
 refine h_done (by kernel_rfl) ?_
 refine q_conv (L' := row e8.T e8.sz a20 ((numB s.n.toNat) ++ (numB s.xs.length)).length c20 (flat e8 ((numB s.n.toNat) ++ (numB s.xs.length))) :: blk m (.cells #[.int .i64 s.n, .slice a_1 (s.xs).length c_1] 54 (0, 0)) :: row e_Row.T e_Row.sz a_1 (s.xs).length c_1 (flat e_Row s.xs) :: vals s.xs :: F) (fun w S => S.perm List.perm_append_comm) ?_
 refine q_then ?_
 refine c_seq ?_
 refine c_seq ?_
 refine c_region ?_
 refine o_assign rfl rfl ?_
 refine l_nil ?_
 refine q_then ?_
 refine c_block ?_
 refine c_loop (α := Nat × (List UInt8) × (Option Addr) × Nat) (fun z => [(0, .pointer (some ⟨m, 0, none⟩)), (3, .slice z.2.2.1 (z.2.1).length z.2.2.2), (4, .int .i64 (z.1 : Int))]) (fun z => row e8.T e8.sz z.2.2.1 (z.2.1).length z.2.2.2 (flat e8 z.2.1) :: blk m (.cells #[.int .i64 s.n, .slice a_1 (s.xs).length c_1] 54 (0, 0)) :: row e_Row.T e_Row.sz a_1 (s.xs).length c_1 (flat e_Row s.xs) :: vals s.xs :: F) (fun z => z.1 ≤ s.xs.length ∧ z.2.1 = numB s.n.toNat ++ numB s.xs.length ++ rowsB ((s.xs.take z.1).map proj)) (fun z => s.xs.length - z.1) (0, (numB s.n.toNat) ++ (numB s.xs.length), a20, c20) (by exact ⟨Nat.zero_le _, by simp [rowsB]⟩) ⟨(by first | rfl | exact vint (by omega)), (by first | rfl | exact vint (by omega)), (by first | rfl | exact vint (by omega)), trivial⟩ (fun w S => S) ?_
 rintro ⟨i, zs, a9, c9⟩ ⟨hi, hzs⟩
 try dsimp only at *
 have hzl : zs.length ≤ 300000000100 := by rw [hzs]; simp only [List.length_append]; have h9 := hz.part (rfl : s.xs.map proj = s.M) i; omega
 refine c_seq ?_
 refine c_seq ?_
 refine c_region ?_
 refine o_move rfl rfl ?_
 refine o_move rfl rfl ?_
 refine o_nil rfl rfl ?_
 refine o_fieldAddr (q := ⟨m, 1, none⟩) rfl rfl Try.underlying54 rfl ti43 rfl ?_
 refine o_load1 rfl rfl Try.underlying43 rfl (rd_mem 1 rfl rfl) ?_
 refine o_len rfl rfl Try.underlying43 ?_
 refine o_bin rfl rfl rfl b_lss ?_
 refine l_nil ?_
 refine q_then ?_
 refine c_cond rfl (fun h1 => ?_) (fun h1 => ?_)
 · -- h1T
  have h1b := h1
  try simp only [decide_eq_true_eq] at h1
  refine c_skip ?_
  refine q_then ?_
  refine c_seq ?_
  refine c_block ?_
  refine c_seq ?_
  refine c_region ?_
  refine o_move rfl rfl ?_
  refine o_nil rfl rfl ?_
  refine o_fieldAddr (q := ⟨m, 1, none⟩) rfl rfl Try.underlying54 rfl ti43 rfl ?_
  refine o_load1 rfl rfl Try.underlying43 rfl (rd_mem 1 rfl rfl) ?_
  refine o_move rfl rfl ?_
  refine o_index e_Row_ok rfl rfl rfl Try.underlying43 (by omega) (by omega) (rds_own e_Row_ok 2 rfl) fun ad35 ead35 => ?_
  obtain ⟨x35, hx35⟩ : ∃ x, (s.xs)[((i : Int)).toNat]? = some x := ⟨_, List.getElem?_eq_getElem (by omega)⟩
  have hrw := hz.row (rfl : s.xs.map proj = s.M) (show s.xs[i]? = some x35 from hx35)
  obtain ⟨z1, z2, z3, z4, z5, z6⟩ := hrw
  have n1 := nl10 (n := x35.f_key.data.toList.length) (by omega)
  have n2 := nl10 (n := x35.f_value.f_Value.xs.length) (by omega)
  have n3 := nl10 (n := x35.f_value.f_Home.toNat) (by omega)
  have n4 := nl10 (n := x35.f_value.f_Count.toNat) (by omega)
  refine o_loadn (vs := e_Row.cells x35) rfl rfl Try.underlying49 rfl ti49 (rdn_sl e_Row_ok ead35 (rds_own e_Row_ok 2 rfl) hx35) ?_
  refine o_alloc rfl ti49 fun b5 => ?_
  refine o_storen rfl rfl ti49 rfl rfl rfl rfl ?_
  refine l_nil ?_
  refine q_then ?_
  refine c_seq ?_
  refine c_region ?_
  refine o_move rfl rfl ?_
  refine o_fieldAddr (q := ⟨b5, 0, none⟩) rfl rfl Try.underlying49 rfl ti9 rfl ?_
  refine o_load1 rfl rfl Try.underlying9 rfl (rd_mem 0 rfl rfl) ?_
  refine o_strBytes (e := e8) rfl rfl rfl rfl Try.underlying9 Try.underlying23 Try.underlying5 fun a40 c40 hc40 => ?_
  refine o_call rfl cal45 rfl (rText (rds_mrow e8_ok 0 rfl) (by (try simp only [List.length_append, List.length_cons, List.length_nil]); omega)) ?_
  rintro _ _ ⟨a41, c41, rfl, rfl⟩
  refine l_f3 ?_
  refine o_append e8_ok rfl rfl rfl Try.underlying23 (rds_own e8_ok 1 rfl) (by show (_ + _) * 1 ≤ _; (try simp only [List.length_append, List.length_cons, List.length_nil]); omega) (by (try simp only [List.length_append, List.length_cons, List.length_nil]); omega) fun a42 c42 => ?_
  refine l_f1 ?_
  refine l_drop ?_
  refine o_assign rfl rfl ?_
  refine l_nil ?_
  refine q_then ?_
  refine c_seq ?_
  refine c_region ?_
  refine o_assign rfl rfl ?_
  refine l_nil ?_
  refine q_then ?_
  refine c_seq ?_
  refine c_seq ?_
  refine c_region ?_
  refine o_fieldAddr (q := ⟨b5, 1, none⟩) rfl rfl Try.underlying49 rfl ti36 rfl ?_
  refine o_fieldAddr (q := ⟨b5, 1, none⟩) rfl rfl Try.underlying36 rfl ti4 rfl ?_
  refine o_load1 rfl rfl Try.underlying4 rfl (rd_mem 2 rfl rfl) ?_
  refine l_nil ?_
  refine q_then ?_
  refine c_cond rfl (fun h2 => ?_) (fun h2 => ?_)
  · -- h2T
   have h2b := h2
   try simp only [decide_eq_true_eq, decide_eq_false_iff_not, Bool.not_eq_eq_eq_not, Bool.not_true, Bool.not_false, Bool.not_eq_true', Bool.not_eq_false', Int.not_lt, Int.not_le, Bool.or_eq_true, Bool.and_eq_true] at h2
   refine c_region ?_
   refine o_assign rfl rfl ?_
   refine l_nil ?_
   refine q_then ?_
   refine c_seq ?_
   refine c_region ?_
   refine o_move rfl rfl ?_
   refine o_move rfl rfl ?_
   refine l_eq (t := 47) (v' := .int .u8 ((hasB x35.f_value.f_Has).toNat : Int)) rfl (by rw [show x35.f_value.f_Has = true by assumption]; rfl) ?_
   refine o_lit e8_ok rfl Try.underlying23 rfl rfl rfl (lit_ok rfl) [hasB x35.f_value.f_Has] rfl rfl fun a48 => ?_
   refine l_f1 ?_
   refine o_append e8_ok rfl rfl rfl Try.underlying23 (rds_own e8_ok 1 rfl) (by show (_ + _) * 1 ≤ _; (try simp only [List.length_append, List.length_cons, List.length_nil]); omega) (by (try simp only [List.length_append, List.length_cons, List.length_nil]); omega) fun a49 c49 => ?_
   refine l_f1 ?_
   refine l_drop ?_
   refine o_assign rfl rfl ?_
   refine l_nil ?_
   refine q_then ?_
   refine c_seq ?_
   refine c_region ?_
   refine o_move rfl rfl ?_
   refine o_fieldAddr (q := ⟨b5, 1, none⟩) rfl rfl Try.underlying49 rfl ti36 rfl ?_
   refine o_fieldAddr (q := ⟨b5, 2, none⟩) rfl rfl Try.underlying36 rfl ti23 rfl ?_
   refine o_load1 rfl rfl Try.underlying23 rfl (rd_mem 2 rfl rfl) ?_
   refine o_call rfl cal45 rfl (rText ((fun x hx => rds_vals 5 rfl hx) x35 (List.mem_of_getElem? hx35)) (by (try simp only [List.length_append, List.length_cons, List.length_nil]); omega)) ?_
   rintro _ _ ⟨a54, c54, rfl, rfl⟩
   refine l_f1 ?_
   refine o_append e8_ok rfl rfl rfl Try.underlying23 (rds_own e8_ok 1 rfl) (by show (_ + _) * 1 ≤ _; (try simp only [List.length_append, List.length_cons, List.length_nil]); omega) (by (try simp only [List.length_append, List.length_cons, List.length_nil]); omega) fun a55 c55 => ?_
   refine l_f1 ?_
   refine l_drop ?_
   refine o_assign rfl rfl ?_
   refine l_nil ?_
   refine q_then ?_
   refine c_seq ?_
   refine c_region ?_
   refine o_move rfl rfl ?_
   refine o_fieldAddr (q := ⟨b5, 1, none⟩) rfl rfl Try.underlying49 rfl ti36 rfl ?_
   refine o_fieldAddr (q := ⟨b5, 3, none⟩) rfl rfl Try.underlying36 rfl ti3 rfl ?_
   refine o_load1 rfl rfl Try.underlying3 rfl (rd_mem 2 rfl rfl) ?_
   refine o_int rfl rfl Try.underlying3 Try.underlying34 (wrap_u64 (by omega) (by omega)) ?_
   refine l_eq (t := 60) (v' := .int .u64 (x35.f_value.f_Home.toNat : Int)) rfl (by exact congrArg (Value.int .u64) (Int.toNat_of_nonneg z3).symm) ?_
   refine o_call rfl cal44 rfl (rNum (v := x35.f_value.f_Home.toNat) (by omega)) ?_
   rintro _ _ ⟨a61, c61, rfl, rfl⟩
   refine l_f1 ?_
   refine o_append e8_ok rfl rfl rfl Try.underlying23 (rds_own e8_ok 1 rfl) (by show (_ + _) * 1 ≤ _; (try simp only [List.length_append, List.length_cons, List.length_nil]); omega) (by (try simp only [List.length_append, List.length_cons, List.length_nil]); omega) fun a62 c62 => ?_
   refine l_f1 ?_
   refine l_drop ?_
   refine o_assign rfl rfl ?_
   refine l_nil ?_
   refine q_then ?_
   refine c_region ?_
   refine o_move rfl rfl ?_
   refine o_fieldAddr (q := ⟨b5, 1, none⟩) rfl rfl Try.underlying49 rfl ti36 rfl ?_
   refine o_fieldAddr (q := ⟨b5, 4, none⟩) rfl rfl Try.underlying36 rfl ti34 rfl ?_
   refine o_load1 rfl rfl Try.underlying34 rfl (rd_mem 2 rfl rfl) ?_
   refine l_eq (t := 66) (v' := .int .u64 (x35.f_value.f_Count.toNat : Int)) rfl (by exact congrArg (Value.int .u64) (Int.toNat_of_nonneg z5).symm) ?_
   refine o_call rfl cal44 rfl (rNum (v := x35.f_value.f_Count.toNat) (by omega)) ?_
   rintro _ _ ⟨a67, c67, rfl, rfl⟩
   refine l_f1 ?_
   refine o_append e8_ok rfl rfl rfl Try.underlying23 (rds_own e8_ok 1 rfl) (by show (_ + _) * 1 ≤ _; (try simp only [List.length_append, List.length_cons, List.length_nil]); omega) (by (try simp only [List.length_append, List.length_cons, List.length_nil]); omega) fun a68 c68 => ?_
   refine l_f1 ?_
   refine l_drop ?_
   refine o_assign rfl rfl ?_
   refine l_nil ?_
   refine q_block ?_
   refine q_then ?_
   refine c_region ?_
   refine o_move rfl rfl ?_
   refine o_bin rfl rfl rfl (b_add (wrap_i64 (by omega) (by omega))) ?_
   refine o_assign rfl rfl ?_
   refine l_nil ?_
   refine q_conv (fun w S => (S.perm p1).tail) ?_
   refine q_conv (fun w S => (S.perm p1).tail) ?_
   exact q_round (i + 1, zs ++ (numB (x35.f_key.data.toList).length ++ x35.f_key.data.toList) ++ [hasB x35.f_value.f_Has] ++ (numB (x35.f_value.f_Value.xs).length ++ x35.f_value.f_Value.xs) ++ (numB x35.f_value.f_Home.toNat) ++ (numB x35.f_value.f_Count.toNat), a68, c68) (by exact ⟨by omega, by rw [hzs, rowsB_on (show s.xs[i]? = some x35 from hx35), rowB_x]; simp only [List.append_assoc]⟩) (by (try dsimp only); omega) ⟨(by first | rfl | exact vint (by omega)), (by first | rfl | exact vint (by omega)), (by first | rfl | exact vint (by omega)), trivial⟩ (fun w S => S)
  · -- h2F
   have h2b := h2
   try simp only [decide_eq_true_eq, decide_eq_false_iff_not, Bool.not_eq_eq_eq_not, Bool.not_true, Bool.not_false, Bool.not_eq_true', Bool.not_eq_false', Int.not_lt, Int.not_le, Bool.or_eq_true, Bool.and_eq_true] at h2
   refine c_skip ?_
   refine q_then ?_
   refine c_seq ?_
   refine c_region ?_
   refine o_move rfl rfl ?_
   refine o_move rfl rfl ?_
   refine l_eq (t := 47) (v' := .int .u8 ((hasB x35.f_value.f_Has).toNat : Int)) rfl (by rw [show x35.f_value.f_Has = false by assumption]; rfl) ?_
   refine o_lit e8_ok rfl Try.underlying23 rfl rfl rfl (lit_ok rfl) [hasB x35.f_value.f_Has] rfl rfl fun a48 => ?_
   refine l_f1 ?_
   refine o_append e8_ok rfl rfl rfl Try.underlying23 (rds_own e8_ok 1 rfl) (by show (_ + _) * 1 ≤ _; (try simp only [List.length_append, List.length_cons, List.length_nil]); omega) (by (try simp only [List.length_append, List.length_cons, List.length_nil]); omega) fun a49 c49 => ?_
   refine l_f1 ?_
   refine l_drop ?_
   refine o_assign rfl rfl ?_
   refine l_nil ?_
   refine q_then ?_
   refine c_seq ?_
   refine c_region ?_
   refine o_move rfl rfl ?_
   refine o_fieldAddr (q := ⟨b5, 1, none⟩) rfl rfl Try.underlying49 rfl ti36 rfl ?_
   refine o_fieldAddr (q := ⟨b5, 2, none⟩) rfl rfl Try.underlying36 rfl ti23 rfl ?_
   refine o_load1 rfl rfl Try.underlying23 rfl (rd_mem 2 rfl rfl) ?_
   refine o_call rfl cal45 rfl (rText ((fun x hx => rds_vals 5 rfl hx) x35 (List.mem_of_getElem? hx35)) (by (try simp only [List.length_append, List.length_cons, List.length_nil]); omega)) ?_
   rintro _ _ ⟨a54, c54, rfl, rfl⟩
   refine l_f1 ?_
   refine o_append e8_ok rfl rfl rfl Try.underlying23 (rds_own e8_ok 1 rfl) (by show (_ + _) * 1 ≤ _; (try simp only [List.length_append, List.length_cons, List.length_nil]); omega) (by (try simp only [List.length_append, List.length_cons, List.length_nil]); omega) fun a55 c55 => ?_
   refine l_f1 ?_
   refine l_drop ?_
   refine o_assign rfl rfl ?_
   refine l_nil ?_
   refine q_then ?_
   refine c_seq ?_
   refine c_region ?_
   refine o_move rfl rfl ?_
   refine o_fieldAddr (q := ⟨b5, 1, none⟩) rfl rfl Try.underlying49 rfl ti36 rfl ?_
   refine o_fieldAddr (q := ⟨b5, 3, none⟩) rfl rfl Try.underlying36 rfl ti3 rfl ?_
   refine o_load1 rfl rfl Try.underlying3 rfl (rd_mem 2 rfl rfl) ?_
   refine o_int rfl rfl Try.underlying3 Try.underlying34 (wrap_u64 (by omega) (by omega)) ?_
   refine l_eq (t := 60) (v' := .int .u64 (x35.f_value.f_Home.toNat : Int)) rfl (by exact congrArg (Value.int .u64) (Int.toNat_of_nonneg z3).symm) ?_
   refine o_call rfl cal44 rfl (rNum (v := x35.f_value.f_Home.toNat) (by omega)) ?_
   rintro _ _ ⟨a61, c61, rfl, rfl⟩
   refine l_f1 ?_
   refine o_append e8_ok rfl rfl rfl Try.underlying23 (rds_own e8_ok 1 rfl) (by show (_ + _) * 1 ≤ _; (try simp only [List.length_append, List.length_cons, List.length_nil]); omega) (by (try simp only [List.length_append, List.length_cons, List.length_nil]); omega) fun a62 c62 => ?_
   refine l_f1 ?_
   refine l_drop ?_
   refine o_assign rfl rfl ?_
   refine l_nil ?_
   refine q_then ?_
   refine c_region ?_
   refine o_move rfl rfl ?_
   refine o_fieldAddr (q := ⟨b5, 1, none⟩) rfl rfl Try.underlying49 rfl ti36 rfl ?_
   refine o_fieldAddr (q := ⟨b5, 4, none⟩) rfl rfl Try.underlying36 rfl ti34 rfl ?_
   refine o_load1 rfl rfl Try.underlying34 rfl (rd_mem 2 rfl rfl) ?_
   refine l_eq (t := 66) (v' := .int .u64 (x35.f_value.f_Count.toNat : Int)) rfl (by exact congrArg (Value.int .u64) (Int.toNat_of_nonneg z5).symm) ?_
   refine o_call rfl cal44 rfl (rNum (v := x35.f_value.f_Count.toNat) (by omega)) ?_
   rintro _ _ ⟨a67, c67, rfl, rfl⟩
   refine l_f1 ?_
   refine o_append e8_ok rfl rfl rfl Try.underlying23 (rds_own e8_ok 1 rfl) (by show (_ + _) * 1 ≤ _; (try simp only [List.length_append, List.length_cons, List.length_nil]); omega) (by (try simp only [List.length_append, List.length_cons, List.length_nil]); omega) fun a68 c68 => ?_
   refine l_f1 ?_
   refine l_drop ?_
   refine o_assign rfl rfl ?_
   refine l_nil ?_
   refine q_block ?_
   refine q_then ?_
   refine c_region ?_
   refine o_move rfl rfl ?_
   refine o_bin rfl rfl rfl (b_add (wrap_i64 (by omega) (by omega))) ?_
   refine o_assign rfl rfl ?_
   refine l_nil ?_
   refine q_conv (fun w S => (S.perm p1).tail) ?_
   refine q_conv (fun w S => (S.perm p1).tail) ?_
   exact q_round (i + 1, zs ++ (numB (x35.f_key.data.toList).length ++ x35.f_key.data.toList) ++ [hasB x35.f_value.f_Has] ++ (numB (x35.f_value.f_Value.xs).length ++ x35.f_value.f_Value.xs) ++ (numB x35.f_value.f_Home.toNat) ++ (numB x35.f_value.f_Count.toNat), a68, c68) (by exact ⟨by omega, by rw [hzs, rowsB_on (show s.xs[i]? = some x35 from hx35), rowB_x]; simp only [List.append_assoc]⟩) (by (try dsimp only); omega) ⟨(by first | rfl | exact vint (by omega)), (by first | rfl | exact vint (by omega)), (by first | rfl | exact vint (by omega)), trivial⟩ (fun w S => S)
 · -- h1F
  have h1b := h1
  try simp only [decide_eq_false_iff_not, Int.not_lt, Int.not_le] at h1
  refine c_exit ?_
  refine q_pass_exit ?_
  refine q_pass_exit ?_
  refine q_hit ?_
  refine q_then ?_
  refine c_seq ?_
  have hfin : zs = (snapB s.n s.M) := by rw [hzs, List.take_of_length_le (by omega)]; unfold snapB; rw [M_len]; rfl
  refine c_region ?_
  refine o_move rfl rfl ?_
  refine o_assign rfl rfl ?_
  refine l_nil ?_
  refine q_then ?_
  refine c_ret ?_
  refine q_conv (fun w S => S.perm p3) ?_
  refine q_conv (fun w S => S.perm p3) ?_
  refine q_conv (fun w S => S.perm p3) ?_
  refine q_conv (L' := RfR m s :: _) (fun w S => Sat.obj_mk ⟨a_1, c_1⟩ ok_1 S) ?_
  refine q_conv (fun w S => S.perm p1) ?_
  exact f_ret (r_one rfl rfl) (⟨a9, c9, (by rw [hfin]), rfl⟩) (fun w S => by rw [hfin] at S; exact S)
theorem rgetO_ {W : World} {F : List Res} {m : Nat} {s : SS} {k' : ByteArray} (hk : k'.size ≤ 1000000) (hl : s.xs.length ≤ 1000000) : CS Try.prog 21 #[.pointer (some ⟨m, 0, none⟩), .string k'] W (RfR m s :: F) (fun r L' => ∃ v : Rec, v = lookI s.n k' s.xs ∧ r = .agg #[.bool v.f_Has, .slice v.f_Value.a (v.f_Value.xs).length v.f_Value.c, .int .i64 v.f_Home, .int .u64 v.f_Count] ∧ L' = RfR m s :: F) := by
  refine csOpens (X := Option Addr × Nat) (p := fun _ => OkS s ∧ Srt ItA.f_key strlt s.xs) (LL := fun x => blk m (.cells #[.int .i64 s.n, .slice x.1 (s.xs).length x.2] 54 (0, 0)) :: row e_Row.T e_Row.sz x.1 (s.xs).length x.2 (flat e_Row s.xs) :: vals s.xs :: F) (fun w S => S.obj_open) fun x hx => ?_
  have hn3 := hx.1.n3
  refine csWeak (rget_ (F := vals s.xs :: F) hk hl (by omega)) ?_
  rintro v L' ⟨u, hu, rfl, rfl⟩
  exact ⟨_, ⟨u, hu, rfl, rfl⟩, fun w S => Sat.obj_mk x hx S⟩
theorem rds_look {W : World} {L : List Res} {m : Nat} {s : SS} {n : Int} {k : ByteArray} {v : Rec} (j : Nat) (h : L[j]? = some (RfR m s)) (hv : v = lookI n k s.xs) : RdS W L e8 v.f_Value.a v.f_Value.xs := by
  subst hv
  rcases lookI_in (n := n) (k := k) (xs := s.xs) with ⟨y, hy, _, hv⟩ | ⟨_, hz⟩
  · rw [← hv]; exact rds_rf j h hy
  · rw [hz]; exact rds_nil _ _
end
section
set_option linter.unusedVariables false
set_option linter.unusedSimpArgs false
set_option maxRecDepth 10000
open Go.RowKit Classical
theorem speaks_ {W : World} {F : List Res}  : CS Try.prog 8 #[] W (F) (fun r L' => r = .bool true ∧ F = L') := by
 refine f_door (l0 := []) Try.func8 Try.ntmps8 rfl rfl rfl ?_
 refine c_seq ?_
 refine c_region ?_
 refine o_assign rfl rfl ?_
 refine l_nil ?_
 refine q_then ?_
 refine c_seq ?_
 refine c_region ?_
 refine o_call rfl cal10 rfl (new_ (n := 3) (by decide) (by decide)) ?_
 rintro _ _ ⟨k6, rfl, rfl⟩
 refine o_move rfl rfl ?_
 refine o_extract rfl rfl rfl ?_
 refine o_extract rfl rfl rfl ?_
 refine o_assign rfl rfl ?_
 refine o_assign rfl rfl ?_
 refine l_nil ?_
 refine q_then ?_
 refine c_seq ?_
 refine c_seq ?_
 refine c_region ?_
 refine o_move rfl rfl ?_
 refine o_bin rfl rfl rfl (b_peq Try.underlying26 _) ?_
 refine o_move rfl rfl ?_
 refine o_yes rfl rfl rfl ?_
 refine o_move rfl rfl ?_
 refine o_yes rfl rfl rfl ?_
 refine o_bin rfl rfl rfl b_neq ?_
 refine o_pick_false rfl rfl rfl ?_
 refine l_nil ?_
 refine q_then ?_
 refine c_false rfl ?_
 refine c_skip ?_
 refine q_then ?_
 refine c_seq ?_
 refine c_region ?_
 refine o_move rfl rfl ?_
 refine o_call rfl cal18 rfl (move6_ (k' := ⟨#[97]⟩) (h := 2) (show s97.size ≤ 1000000 by decide) (by decide)) ?_
 rintro _ _ ⟨s16, e16, hsn16, hsM16, rfl, rfl⟩
 obtain ⟨he16, hm16⟩ := spMove rfl hsM16
 refine o_assign rfl rfl ?_
 refine l_nil ?_
 refine q_then ?_
 refine c_seq ?_
 refine c_region ?_
 refine o_move rfl rfl ?_
 refine o_call rfl cal13 rfl (get_ (k' := ⟨#[97]⟩) (show s97.size ≤ 1000000 by decide)) ?_
 rintro _ _ ⟨v18, hv18, rfl, rfl⟩
 rw [show s16.n = 3 from hsn16] at hv18
 have hv18b := hv18.trans hm16
 have hq1 : v18.f_Has = false := congrArg RecM.has hv18b
 have hq2 : v18.f_Home = 2 := congrArg RecM.home hv18b
 have hq3 : v18.f_Count = 1 := congrArg RecM.count hv18b
 refine o_alloc rfl ti36 fun b4 => ?_
 refine o_storen rfl rfl ti36 rfl rfl rfl rfl ?_
 refine l_nil ?_
 refine q_then ?_
 refine c_seq ?_
 refine c_region ?_
 refine o_call rfl cal14 rfl (default_ (k := ⟨#[97]⟩) (n := 3) (show s97.size ≤ 1000000 by decide)) ?_
 rintro _ _ ⟨rfl, rfl⟩
 refine o_bin rfl rfl rfl b_eql ?_
 refine l_eq (t := 20) (v' := .bool true) rfl (show _ = Value.bool true from by rw [show dflt ⟨#[97]⟩ 3 = 1 from d97]; first | done | rfl) ?_
 refine o_move rfl rfl ?_
 refine o_yes rfl rfl rfl ?_
 refine o_move rfl rfl ?_
 refine o_yes rfl rfl rfl ?_
 refine o_bin rfl rfl rfl b_eql ?_
 refine l_eq (t := 23) (v' := .bool true) rfl (show _ = Value.bool true from by rw [he16]; first | done | rfl) ?_
 refine o_pick_true rfl rfl rfl ?_
 refine o_move rfl rfl ?_
 refine o_yes rfl rfl rfl ?_
 refine o_fieldAddr (q := ⟨b4, 2, none⟩) rfl rfl Try.underlying36 rfl ti3 rfl ?_
 refine o_yes rfl rfl rfl ?_
 refine o_load1 rfl rfl Try.underlying3 rfl (rd_mem 0 rfl rfl) ?_
 refine o_yes rfl rfl rfl ?_
 refine o_bin rfl rfl rfl b_eql ?_
 refine l_eq (t := 28) (v' := .bool true) rfl (show _ = Value.bool true from by rw [hq2]; first | done | rfl) ?_
 refine o_pick_true rfl rfl rfl ?_
 refine o_move rfl rfl ?_
 refine o_yes rfl rfl rfl ?_
 refine o_fieldAddr (q := ⟨b4, 3, none⟩) rfl rfl Try.underlying36 rfl ti34 rfl ?_
 refine o_yes rfl rfl rfl ?_
 refine o_load1 rfl rfl Try.underlying34 rfl (rd_mem 0 rfl rfl) ?_
 refine o_yes rfl rfl rfl ?_
 refine o_bin rfl rfl rfl b_eql ?_
 refine l_eq (t := 33) (v' := .bool true) rfl (show _ = Value.bool true from by rw [hq3]; first | done | rfl) ?_
 refine o_pick_true rfl rfl rfl ?_
 refine o_move rfl rfl ?_
 refine o_yes rfl rfl rfl ?_
 refine o_fieldAddr (q := ⟨b4, 0, none⟩) rfl rfl Try.underlying36 rfl ti4 rfl ?_
 refine o_yes rfl rfl rfl ?_
 refine o_load1 rfl rfl Try.underlying4 rfl (rd_mem 0 rfl rfl) ?_
 refine o_yes rfl rfl rfl ?_
 refine o_not rfl rfl ?_
 refine l_eq (t := 38) (v' := .bool true) rfl (show _ = Value.bool true from by rw [hq1]; first | done | rfl) ?_
 refine o_pick_true rfl rfl rfl ?_
 refine o_assign rfl rfl ?_
 refine l_nil ?_
 refine q_then ?_
 refine c_ret ?_
 refine q_conv (fun w S => S.tail) ?_
 refine q_conv (fun w S => S.tail) ?_
 refine q_conv (fun w S => S.tail) ?_
 exact f_ret (r_one rfl rfl) (⟨rfl, rfl⟩) (fun w S => S)
theorem great_ {W : World} {F : List Res} {os : List Op} {a : Option Addr} {c : Nat} (hs : SlR W e_Op a os) (hv : ∀ o ∈ os, SlR W e8 o.f_Value.a o.f_Value.xs)  : CS Try.prog 9 #[.slice a (os).length c] W (F) (fun r L' => ∃ b : Bool, (b = false → GoodOps os) ∧ r = .bool b ∧ F = L') := by
 refine f_door (l0 := [(0, .slice a (os).length c)]) Try.func9 Try.ntmps9 rfl rfl rfl ?_
 refine c_seq ?_
 refine c_region ?_
 refine o_assign rfl rfl ?_
 refine l_nil ?_
 refine q_then ?_
 refine c_seq ?_
 refine c_seq ?_
 refine c_region ?_
 refine o_move rfl rfl ?_
 refine o_len rfl rfl Try.underlying22 ?_
 refine o_bin rfl rfl rfl b_gtr ?_
 refine l_nil ?_
 refine q_then ?_
 refine c_cond rfl (fun h1 => ?_) (fun h1 => ?_)
 · -- h1T
  have h1b := h1
  try simp only [decide_eq_true_eq] at h1
  refine c_seq ?_
  refine c_region ?_
  refine o_assign rfl rfl ?_
  refine l_nil ?_
  refine q_then ?_
  refine c_ret ?_
  refine q_pass_ret ?_
  exact f_ret (r_one rfl rfl) (⟨true, (fun h9 => by cases h9), rfl, rfl⟩) (fun w S => S)
 · -- h1F
  have h1b := h1
  try simp only [decide_eq_false_iff_not, Int.not_lt, Int.not_le] at h1
  refine c_skip ?_
  refine q_then ?_
  refine c_seq ?_
  refine c_seq ?_
  refine c_region ?_
  refine o_move rfl rfl ?_
  refine o_len rfl rfl Try.underlying22 ?_
  refine o_move rfl rfl ?_
  refine l_nil ?_
  refine q_then ?_
  refine c_block ?_
  refine c_loop (α := Nat) (fun z => [(8, .slice a (os).length c), (9, .int .i64 ((os).length : Int)), (10, .int .i64 (z : Int))]) (fun z => F) (fun z => z ≤ os.length ∧ ∀ o ∈ os.take z, o.f_Key.size ≤ 500 ∧ o.f_Value.xs.length ≤ 500) (fun z => os.length - z) (0) (by exact ⟨Nat.zero_le _, fun o ho => by simp at ho⟩) ⟨(by first | rfl | exact vint (by omega)), (by first | rfl | exact vint (by omega)), (by first | rfl | exact vint (by omega)), trivial⟩ (fun w S => S) ?_
  rintro i ⟨hi, hal⟩
  try dsimp only at *
  refine c_seq ?_
  refine c_region ?_
  refine o_bin rfl rfl rfl b_lss ?_
  refine l_nil ?_
  refine q_then ?_
  refine c_seq ?_
  refine c_cond rfl (fun h2 => ?_) (fun h2 => ?_)
  · -- h2T
   have h2b := h2
   try simp only [decide_eq_true_eq] at h2
   refine c_skip ?_
   refine q_then ?_
   refine c_seq ?_
   refine c_block ?_
   refine c_seq ?_
   refine c_region ?_
   refine o_index e_Op_ok rfl rfl rfl Try.underlying22 (by omega) (by omega) (rds_old hs) fun ad12 ead12 => ?_
   obtain ⟨x12, hx12⟩ : ∃ x, (os)[((i : Int)).toNat]? = some x := ⟨_, List.getElem?_eq_getElem (by omega)⟩
   refine o_loadn (vs := e_Op.cells x12) rfl rfl Try.underlying32 rfl ti32 (rdn_sl e_Op_ok ead12 (rds_old hs) hx12) ?_
   refine o_alloc rfl ti32 fun b4 => ?_
   refine o_storen rfl rfl ti32 rfl rfl rfl rfl ?_
   refine l_nil ?_
   refine q_then ?_
   refine c_seq ?_
   refine c_region ?_
   refine o_fieldAddr (q := ⟨b4, 2, none⟩) rfl rfl Try.underlying32 rfl ti9 rfl ?_
   refine o_load1 rfl rfl Try.underlying9 rfl (rd_mem 0 rfl rfl) ?_
   refine o_lenStr rfl rfl Try.underlying9 ?_
   refine o_bin rfl rfl rfl b_gtr ?_
   refine o_move rfl rfl ?_
   refine l_split (t := 18) rfl (fun h3 => ?_) (fun h3 => ?_)
   · -- h3T
    have h3b := h3
    try simp only [decide_eq_true_eq] at h3
    refine o_no rfl rfl rfl rfl ?_
    refine o_no rfl rfl rfl rfl ?_
    refine o_no rfl rfl rfl rfl ?_
    refine o_no rfl rfl rfl rfl ?_
    refine o_pick_true rfl rfl rfl ?_
    refine l_nil ?_
    refine q_then ?_
    refine c_true rfl ?_
    refine c_seq ?_
    refine c_region ?_
    refine o_assign rfl rfl ?_
    refine l_nil ?_
    refine q_then ?_
    refine c_ret ?_
    refine q_block_ret ?_
    refine q_pass_ret ?_
    refine q_pass_ret ?_
    refine q_block_ret ?_
    refine q_pass_ret ?_
    refine q_conv (fun w S => S.tail) ?_
    exact f_ret (r_one rfl rfl) (⟨true, (fun h9 => by cases h9), rfl, rfl⟩) (fun w S => S)
   · -- h3F
    have h3b := h3
    try simp only [decide_eq_false_iff_not, Int.not_lt, Int.not_le] at h3
    refine o_yes rfl rfl rfl ?_
    refine o_fieldAddr (q := ⟨b4, 3, none⟩) rfl rfl Try.underlying32 rfl ti23 rfl ?_
    refine o_yes rfl rfl rfl ?_
    refine o_load1 rfl rfl Try.underlying23 rfl (rd_mem 0 rfl rfl) ?_
    refine o_yes rfl rfl rfl ?_
    refine o_len rfl rfl Try.underlying23 ?_
    refine o_yes rfl rfl rfl ?_
    refine o_bin rfl rfl rfl b_gtr ?_
    refine o_pick_false rfl rfl rfl ?_
    refine l_nil ?_
    refine q_then ?_
    refine c_cond rfl (fun h4 => ?_) (fun h4 => ?_)
    · -- h4T
     have h4b := h4
     try simp only [decide_eq_true_eq] at h4
     refine c_seq ?_
     refine c_region ?_
     refine o_assign rfl rfl ?_
     refine l_nil ?_
     refine q_then ?_
     refine c_ret ?_
     refine q_block_ret ?_
     refine q_pass_ret ?_
     refine q_pass_ret ?_
     refine q_block_ret ?_
     refine q_pass_ret ?_
     refine q_conv (fun w S => S.tail) ?_
     exact f_ret (r_one rfl rfl) (⟨true, (fun h9 => by cases h9), rfl, rfl⟩) (fun w S => S)
    · -- h4F
     have h4b := h4
     try simp only [decide_eq_false_iff_not, Int.not_lt, Int.not_le] at h4
     refine c_skip ?_
     refine q_block ?_
     refine q_then ?_
     refine c_region ?_
     refine o_bin rfl rfl rfl (b_add (wrap_i64 (by omega) (by omega))) ?_
     refine o_move rfl rfl ?_
     refine l_nil ?_
     refine q_conv (fun w S => S.tail) ?_
     exact q_round (i + 1) (by exact ⟨by omega, fun o ho => by rw [take_snoc' (show os[i]? = some x12 from hx12)] at ho; rcases List.mem_append.1 ho with ho | ho; exact hal o ho; obtain rfl : o = x12 := (by simpa using ho); exact ⟨by omega, by omega⟩⟩) (by (try dsimp only); omega) ⟨(by first | rfl | exact vint (by omega)), (by first | rfl | exact vint (by omega)), (by first | rfl | exact vint (by omega)), trivial⟩ (fun w S => S)
  · -- h2F
   have h2b := h2
   try simp only [decide_eq_false_iff_not, Int.not_lt, Int.not_le] at h2
   refine c_exit ?_
   refine q_pass_exit ?_
   refine q_pass_exit ?_
   refine q_hit ?_
   refine q_then ?_
   refine c_seq ?_
   refine c_region ?_
   refine o_assign rfl rfl ?_
   refine l_nil ?_
   refine q_then ?_
   refine c_ret ?_
   exact f_ret (r_one rfl rfl) (⟨false, (fun _ => ⟨by omega, fun o ho => hal o (by rw [List.take_of_length_le (by omega)]; exact ho)⟩), rfl, rfl⟩) (fun w S => S)
end
section
set_option linter.unusedVariables false
set_option linter.unusedSimpArgs false
set_option maxRecDepth 10000
open Go.RowKit Classical
set_option maxHeartbeats 4000000 in
theorem plays_mid {W : World} {F : List Res} {os : List Op} {a : Option Addr} {c : Nat} (hs : SlR W e_Op a os) (hv : ∀ o ∈ os, SlR W e8 o.f_Value.a o.f_Value.xs) (hN : ∀ o ∈ os, o.f_N < 9223372036854775808) {n : Int} (h1n : 1 ≤ n) (hn3 : n ≤ 3) : CS Try.prog 6 #[.int .i64 n, .slice a (os).length c] W (F) (fun r L' => r = .bool true ∧ F = L') := by
 refine f_door (l0 := [(0, .int .i64 n), (1, .slice a (os).length c)]) Try.func6 Try.ntmps6 rfl rfl rfl ?_
 refine c_seq ?_
 refine c_region ?_
 refine o_assign rfl rfl ?_
 refine l_nil ?_
 refine q_then ?_
 refine c_seq ?_
 refine c_seq ?_
 refine c_region ?_
 refine o_call rfl cal8 rfl (speaks_) ?_
 rintro _ _ ⟨rfl, rfl⟩
 refine o_not rfl rfl ?_
 refine l_nil ?_
 refine q_then ?_
 refine c_false rfl ?_
 refine c_skip ?_
 refine q_then ?_
 refine c_seq ?_
 refine c_seq ?_
 refine c_region ?_
 refine o_move rfl rfl ?_
 refine o_call rfl cal9 rfl (great_ (os := os) (c := c) hs hv) ?_
 rintro _ _ ⟨g14, hgd14, rfl, rfl⟩
 refine l_nil ?_
 refine q_then ?_
 refine c_cond rfl (fun h1 => ?_) (fun h1 => ?_)
 · -- h1T
  have h1b := h1
  try simp only [decide_eq_true_eq, decide_eq_false_iff_not, Bool.not_eq_eq_eq_not, Bool.not_true, Bool.not_false, Bool.not_eq_true', Bool.not_eq_false', Int.not_lt, Int.not_le, Bool.or_eq_true, Bool.and_eq_true] at h1
  refine c_seq ?_
  refine c_region ?_
  refine o_assign rfl rfl ?_
  refine l_nil ?_
  refine q_then ?_
  refine c_ret ?_
  refine q_pass_ret ?_
  exact f_ret (r_one rfl rfl) (⟨rfl, rfl⟩) (fun w S => S)
 · -- h1F
  have h1b := h1
  try simp only [decide_eq_true_eq, decide_eq_false_iff_not, Bool.not_eq_eq_eq_not, Bool.not_true, Bool.not_false, Bool.not_eq_true', Bool.not_eq_false', Int.not_lt, Int.not_le, Bool.or_eq_true, Bool.and_eq_true] at h1
  refine c_skip ?_
  refine q_then ?_
  refine c_seq ?_
  have hgo := hgd14 (by assumption)
  have hlen := hgo.len
  refine c_region ?_
  refine o_move rfl rfl ?_
  refine o_call rfl cal10 rfl (new_ (n := n) (by omega) (by omega)) ?_
  rintro _ _ ⟨k17, rfl, rfl⟩
  refine o_move rfl rfl ?_
  refine o_extract rfl rfl rfl ?_
  refine o_extract rfl rfl rfl ?_
  refine o_assign rfl rfl ?_
  refine o_assign rfl rfl ?_
  refine l_nil ?_
  refine q_then ?_
  refine c_seq ?_
  refine c_seq ?_
  refine c_region ?_
  refine o_move rfl rfl ?_
  refine o_bin rfl rfl rfl b_lss ?_
  refine l_eq (t := 21) (v' := .bool false) rfl (show _ = Value.bool false from by rw [decide_eq_false (by omega)]) ?_
  refine o_move rfl rfl ?_
  refine o_yes rfl rfl rfl ?_
  refine o_move rfl rfl ?_
  refine o_yes rfl rfl rfl ?_
  refine o_bin rfl rfl rfl b_gtr ?_
  refine l_eq (t := 24) (v' := .bool false) rfl (show _ = Value.bool false from by rw [decide_eq_false (by omega)]) ?_
  refine o_pick_false rfl rfl rfl ?_
  refine o_move rfl rfl ?_
  refine o_yes rfl rfl rfl ?_
  refine o_move rfl rfl ?_
  refine o_yes rfl rfl rfl ?_
  refine o_bin rfl rfl rfl (b_peq Try.underlying26 _) ?_
  refine o_pick_false rfl rfl rfl ?_
  refine l_nil ?_
  refine q_then ?_
  refine c_false rfl ?_
  refine c_skip ?_
  refine q_then ?_
  refine c_seq ?_
  refine c_region ?_
  refine o_move rfl rfl ?_
  refine o_call rfl cal15 rfl (rnew_ (n := n) (by omega) (by omega)) ?_
  rintro _ _ ⟨m45, rfl, rfl⟩
  refine o_assign rfl rfl ?_
  refine l_nil ?_
  refine q_then ?_
  refine c_seq ?_
  refine c_seq ?_
  refine c_region ?_
  refine o_move rfl rfl ?_
  refine o_len rfl rfl Try.underlying22 ?_
  refine o_move rfl rfl ?_
  refine l_nil ?_
  refine q_then ?_
  refine c_block ?_
  refine c_loop (α := Nat × SS × SS) (fun z => [(5, .pointer (some ⟨k17, 0, none⟩)), (7, .pointer (some ⟨m45, 0, none⟩)), (46, .slice a (os).length c), (47, .int .i64 ((os).length : Int)), (48, .int .i64 (z.1 : Int))]) (fun z => RfR m45 z.2.2 :: StR k17 z.2.1 :: F) (fun z => z.1 ≤ os.length ∧ Script n z.1 z.2.1 z.2.2) (fun z => os.length - z.1) (0, (⟨n, []⟩ : SS), (⟨n, []⟩ : SS)) (by exact ⟨Nat.zero_le _, Script.start rfl rfl⟩) ⟨(by first | rfl | exact vint (by omega)), (by first | rfl | exact vint (by omega)), (by first | rfl | exact vint (by omega)), (by first | rfl | exact vint (by omega)), (by first | rfl | exact vint (by omega)), trivial⟩ (fun w S => S) ?_
  rintro ⟨i, sl, tl⟩ ⟨hi, hsc⟩
  try dsimp only at *
  refine c_seq ?_
  refine c_region ?_
  refine o_bin rfl rfl rfl b_lss ?_
  refine l_nil ?_
  refine q_then ?_
  refine c_seq ?_
  refine c_cond rfl (fun h2 => ?_) (fun h2 => ?_)
  · -- h2T
   have h2b := h2
   try simp only [decide_eq_true_eq] at h2
   refine c_skip ?_
   refine q_then ?_
   refine c_seq ?_
   refine c_block ?_
   refine c_seq ?_
   refine c_region ?_
   refine o_index e_Op_ok rfl rfl rfl Try.underlying22 (by omega) (by omega) (rds_c (rds_c (rds_old hs))) fun ad50 ead50 => ?_
   obtain ⟨x50, hx50⟩ : ∃ x, (os)[((i : Int)).toNat]? = some x := ⟨_, List.getElem?_eq_getElem (by omega)⟩
   refine o_loadn (vs := e_Op.cells x50) rfl rfl Try.underlying32 rfl ti32 (rdn_sl e_Op_ok ead50 (rds_c (rds_c (rds_old hs))) hx50) ?_
   refine o_alloc rfl ti32 fun b9 => ?_
   refine o_storen rfl rfl ti32 rfl rfl rfl rfl ?_
   refine l_nil ?_
   refine q_then ?_
   refine c_seq ?_
   refine c_seq ?_
   refine c_conv (fun w S => S.perm p2) ?_
   refine c_conv (fun w S => S.perm p2) ?_
   refine c_heldF [RfR m45 tl, StR k17 sl] (blk b9 (.cells #[.int .i64 x50.f_Kind, .int .i64 x50.f_N, .string x50.f_Key, .slice x50.f_Value.a (x50.f_Value.xs).length x50.f_Value.c] 32 (0, 0)) :: F) (by kernel_rfl) ?_
   refine h_take 0 rfl rfl (by kernel_rfl) (by kernel_rfl) (by kernel_rfl) (fun L0 => v_move rfl rfl) ?_
   refine h_take 1 rfl rfl (by kernel_rfl) (by kernel_rfl) (by kernel_rfl) (fun L0 => v_move rfl rfl) ?_
   refine h_take 2 rfl rfl (by kernel_rfl) (by kernel_rfl) (by kernel_rfl) (fun L0 => v_loadn (vs := [_, _, _, _]) rfl rfl Try.underlying32 rfl ti32 (rdn_lit 0 rfl rfl)) ?_
   refine h_one 3 rfl (by kernel_rfl) ?_
   refine l_conv (L' := RfR m45 tl :: StR k17 sl :: blk b9 (.cells #[.int .i64 x50.f_Kind, .int .i64 x50.f_N, .string x50.f_Key, .slice x50.f_Value.a (x50.f_Value.xs).length x50.f_Value.c] 32 (0, 0)) :: F) (fun w S => S.perm List.perm_append_comm) ?_
   refine l_f1 ?_
   refine o_call rfl cal16 rfl (do_ (o := x50) (rds_old (hv x50 (List.mem_of_getElem? hx50))) (hgo.all x50 (List.mem_of_getElem? hx50)).1 (hgo.all x50 (List.mem_of_getElem? hx50)).2 hsc.M hsc.eq (by have h9 := hsc.len; omega)) ?_
   rintro _ _ ⟨s55, t55, htw55, rfl, rfl⟩
   refine l_nil ?_
   refine q_conv (L' := (blk b9 (.cells #[.int .i64 x50.f_Kind, .int .i64 x50.f_N, .string x50.f_Key, .slice x50.f_Value.a (x50.f_Value.xs).length x50.f_Value.c] 32 (0, 0)) :: F) ++ [StR k17 s55, RfR m45 t55]) (fun w S => S.perm (List.perm_append_comm (l₁ := [StR k17 s55, RfR m45 t55]) (l₂ := blk b9 (.cells #[.int .i64 x50.f_Kind, .int .i64 x50.f_N, .string x50.f_Key, .slice x50.f_Value.a (x50.f_Value.xs).length x50.f_Value.c] 32 (0, 0)) :: F))) ?_
   refine h_next ?_
   have hs2 := hsc.on htw55 (hgo.all x50 (List.mem_of_getElem? hx50)).1
   refine h_take 4 rfl rfl (by kernel_rfl) (by kernel_rfl) (by kernel_rfl) (fun L0 => v_not rfl rfl) ?_
   refine h_take 5 rfl rfl (by kernel_rfl) (by kernel_rfl) (by kernel_rfl) (fun L0 => v_move rfl rfl) ?_
   refine h_take_yes 6 rfl rfl rfl rfl rfl (by kernel_rfl) (by kernel_rfl) (by kernel_rfl) (fun L0 => v_move rfl rfl) ?_
   refine h_take_yes 7 rfl rfl rfl rfl rfl (by kernel_rfl) (by kernel_rfl) (by kernel_rfl) (fun L0 => v_fieldAddr (q := ⟨b9, 2, none⟩) rfl rfl Try.underlying32 rfl ti9 rfl) ?_
   refine h_take_yes 8 rfl rfl rfl rfl rfl (by kernel_rfl) (by kernel_rfl) (by kernel_rfl) (fun L0 => v_load1 rfl rfl Try.underlying9 rfl (rd_mem 0 rfl rfl)) ?_
   refine h_take_yes 10 rfl rfl rfl rfl rfl (by kernel_rfl) (by kernel_rfl) (by kernel_rfl) (fun L0 => v_move rfl rfl) ?_
   refine h_take_yes 11 rfl rfl rfl rfl rfl (by kernel_rfl) (by kernel_rfl) (by kernel_rfl) (fun L0 => v_fieldAddr (q := ⟨b9, 2, none⟩) rfl rfl Try.underlying32 rfl ti9 rfl) ?_
   refine h_take_yes 12 rfl rfl rfl rfl rfl (by kernel_rfl) (by kernel_rfl) (by kernel_rfl) (fun L0 => v_load1 rfl rfl Try.underlying9 rfl (rd_mem 0 rfl rfl)) ?_
   refine h_one 9 rfl (by kernel_rfl) ?_
   refine l_conv (L' := StR k17 s55 :: RfR m45 t55 :: blk b9 (.cells #[.int .i64 x50.f_Kind, .int .i64 x50.f_N, .string x50.f_Key, .slice x50.f_Value.a (x50.f_Value.xs).length x50.f_Value.c] 32 (0, 0)) :: F) (fun w S => S.perm List.perm_append_comm) ?_
   refine o_yes rfl rfl rfl ?_
   refine o_call rfl cal13 rfl (get_ (k' := x50.f_Key) (by have h9 := (hgo.all x50 (List.mem_of_getElem? hx50)).1; omega)) ?_
   rintro _ _ ⟨v61, hv61, rfl, rfl⟩
   refine l_nil ?_
   refine q_conv (L' := (blk b9 (.cells #[.int .i64 x50.f_Kind, .int .i64 x50.f_N, .string x50.f_Key, .slice x50.f_Value.a (x50.f_Value.xs).length x50.f_Value.c] 32 (0, 0)) :: F) ++ [row e8.T e8.sz v61.f_Value.a (v61.f_Value.xs).length v61.f_Value.c (flat e8 v61.f_Value.xs), StR k17 s55, RfR m45 t55]) (fun w S => S.perm (List.perm_append_comm (l₁ := [row e8.T e8.sz v61.f_Value.a (v61.f_Value.xs).length v61.f_Value.c (flat e8 v61.f_Value.xs), StR k17 s55, RfR m45 t55]) (l₂ := blk b9 (.cells #[.int .i64 x50.f_Kind, .int .i64 x50.f_N, .string x50.f_Key, .slice x50.f_Value.a (x50.f_Value.xs).length x50.f_Value.c] 32 (0, 0)) :: F))) ?_
   refine h_next ?_
   refine h_one 13 rfl (by kernel_rfl) ?_
   refine l_conv (L' := row e8.T e8.sz v61.f_Value.a (v61.f_Value.xs).length v61.f_Value.c (flat e8 v61.f_Value.xs) :: StR k17 s55 :: RfR m45 t55 :: blk b9 (.cells #[.int .i64 x50.f_Kind, .int .i64 x50.f_N, .string x50.f_Key, .slice x50.f_Value.a (x50.f_Value.xs).length x50.f_Value.c] 32 (0, 0)) :: F) (fun w S => S.perm List.perm_append_comm) ?_
   refine o_yes rfl rfl rfl ?_
   refine l_f2 ?_
   refine o_call rfl cal21 rfl (rgetO_ (k' := x50.f_Key) (by have h9 := (hgo.all x50 (List.mem_of_getElem? hx50)).1; omega) (by have h9 := rows_len hs2.M; rw [M_len] at h9; have h8 := hs2.len; omega)) ?_
   rintro _ _ ⟨v65, hv65, rfl, rfl⟩
   refine l_nil ?_
   refine q_conv (L' := (blk b9 (.cells #[.int .i64 x50.f_Kind, .int .i64 x50.f_N, .string x50.f_Key, .slice x50.f_Value.a (x50.f_Value.xs).length x50.f_Value.c] 32 (0, 0)) :: F) ++ [RfR m45 t55, row e8.T e8.sz v61.f_Value.a (v61.f_Value.xs).length v61.f_Value.c (flat e8 v61.f_Value.xs), StR k17 s55]) (fun w S => S.perm (List.perm_append_comm (l₁ := [RfR m45 t55, row e8.T e8.sz v61.f_Value.a (v61.f_Value.xs).length v61.f_Value.c (flat e8 v61.f_Value.xs), StR k17 s55]) (l₂ := blk b9 (.cells #[.int .i64 x50.f_Kind, .int .i64 x50.f_N, .string x50.f_Key, .slice x50.f_Value.a (x50.f_Value.xs).length x50.f_Value.c] 32 (0, 0)) :: F))) ?_
   refine h_next ?_
   refine h_one 14 rfl (by kernel_rfl) ?_
   refine l_conv (L' := RfR m45 t55 :: row e8.T e8.sz v61.f_Value.a (v61.f_Value.xs).length v61.f_Value.c (flat e8 v61.f_Value.xs) :: StR k17 s55 :: blk b9 (.cells #[.int .i64 x50.f_Kind, .int .i64 x50.f_N, .string x50.f_Key, .slice x50.f_Value.a (x50.f_Value.xs).length x50.f_Value.c] 32 (0, 0)) :: F) (fun w S => S.perm List.perm_append_comm) ?_
   refine o_yes rfl rfl rfl ?_
   refine o_call rfl cal19 rfl (srec_ (a := v61) (b := v65) (rds_own e8_ok 1 rfl) (rds_look 0 rfl hv65)) ?_
   rintro _ _ ⟨bb66, hbb66, rfl, rfl⟩
   refine l_nil ?_
   refine q_conv (L' := (blk b9 (.cells #[.int .i64 x50.f_Kind, .int .i64 x50.f_N, .string x50.f_Key, .slice x50.f_Value.a (x50.f_Value.xs).length x50.f_Value.c] 32 (0, 0)) :: F) ++ [RfR m45 t55, row e8.T e8.sz v61.f_Value.a (v61.f_Value.xs).length v61.f_Value.c (flat e8 v61.f_Value.xs), StR k17 s55]) (fun w S => S.perm (List.perm_append_comm (l₁ := [RfR m45 t55, row e8.T e8.sz v61.f_Value.a (v61.f_Value.xs).length v61.f_Value.c (flat e8 v61.f_Value.xs), StR k17 s55]) (l₂ := blk b9 (.cells #[.int .i64 x50.f_Kind, .int .i64 x50.f_N, .string x50.f_Key, .slice x50.f_Value.a (x50.f_Value.xs).length x50.f_Value.c] 32 (0, 0)) :: F))) ?_
   refine h_next ?_
   have hb66 : bb66 = true := hbb66.2 (by rw [hv61, hv65, lookI_m, hs2.n1, hs2.n2, hs2.M]; rfl)
   refine h_eq (t := 66) (v' := .bool true) rfl (by rw [hb66]) ?_
   refine h_take_yes 15 rfl rfl rfl rfl rfl (by kernel_rfl) (by kernel_rfl) (by kernel_rfl) (fun L0 => v_not rfl rfl) ?_
   refine h_take 16 rfl rfl (by kernel_rfl) (by kernel_rfl) (by kernel_rfl) (fun L0 => v_pick_false rfl rfl rfl) ?_
   refine h_done (by kernel_rfl) ?_
   refine q_conv (L' := RfR m45 t55 :: row e8.T e8.sz v61.f_Value.a (v61.f_Value.xs).length v61.f_Value.c (flat e8 v61.f_Value.xs) :: StR k17 s55 :: blk b9 (.cells #[.int .i64 x50.f_Kind, .int .i64 x50.f_N, .string x50.f_Key, .slice x50.f_Value.a (x50.f_Value.xs).length x50.f_Value.c] 32 (0, 0)) :: F) (fun w S => S.perm List.perm_append_comm) ?_
   refine q_then ?_
   refine c_false rfl ?_
   refine c_skip ?_
   refine q_then ?_
   refine c_seq ?_
   refine c_region ?_
   refine o_move rfl rfl ?_
   refine l_f2 ?_
   refine o_call rfl cal22 rfl (rows6_ (by have h8 := hs2.len; omega)) ?_
   rintro _ _ ⟨ys70, a70, c70, hys70, rfl, rfl⟩
   refine o_assign rfl rfl ?_
   refine l_nil ?_
   refine q_then ?_
   refine c_seq ?_
   refine c_seq ?_
   refine c_conv (fun w S => S.perm p2) ?_
   refine c_fact (p := OkS s55) (fun w S => StR_ok S) fun hok2 => ?_
   refine c_conv (fun w S => S.perm p3) ?_
   refine c_obj ?_
   rintro ⟨a_2, c_2⟩ ok_2
   refine c_conv (L' := blk m45 (.cells #[.int .i64 t55.n, .slice a_2 (t55.xs).length c_2] 54 (0, 0)) :: row e_Row.T e_Row.sz a_2 (t55.xs).length c_2 (flat e_Row t55.xs) :: vals t55.xs :: _) (fun w S => S) ?_
   refine c_heldF [] (blk m45 (.cells #[.int .i64 t55.n, .slice a_2 (t55.xs).length c_2] 54 (0, 0)) :: row e_Row.T e_Row.sz a_2 (t55.xs).length c_2 (flat e_Row t55.xs) :: vals t55.xs :: StR k17 s55 :: row e_Row.T e_Row.sz a70 (ys70).length c70 (flat e_Row ys70) :: vals ys70 :: row e8.T e8.sz v61.f_Value.a (v61.f_Value.xs).length v61.f_Value.c (flat e8 v61.f_Value.xs) :: blk b9 (.cells #[.int .i64 x50.f_Kind, .int .i64 x50.f_N, .string x50.f_Key, .slice x50.f_Value.a (x50.f_Value.xs).length x50.f_Value.c] 32 (0, 0)) :: F) (by kernel_rfl) ?_
   refine h_take 0 rfl rfl (by kernel_rfl) (by kernel_rfl) (by kernel_rfl) (fun L0 => v_move rfl rfl) ?_
   refine h_take 1 rfl rfl (by kernel_rfl) (by kernel_rfl) (by kernel_rfl) (fun L0 => v_move rfl rfl) ?_
   refine h_take 2 rfl rfl (by kernel_rfl) (by kernel_rfl) (by kernel_rfl) (fun L0 => v_nil rfl rfl) ?_
   refine h_take 3 rfl rfl (by kernel_rfl) (by kernel_rfl) (by kernel_rfl) (fun L0 => v_fieldAddr (q := ⟨m45, 1, none⟩) rfl rfl Try.underlying54 rfl ti43 rfl) ?_
   refine h_take 4 rfl rfl (by kernel_rfl) (by kernel_rfl) (by kernel_rfl) (fun L0 => v_load1 rfl rfl Try.underlying43 rfl (rd_mem 0 rfl rfl)) ?_
   refine h_one 5 rfl (by kernel_rfl) ?_
   refine l_conv (L' := blk m45 (.cells #[.int .i64 t55.n, .slice a_2 (t55.xs).length c_2] 54 (0, 0)) :: row e_Row.T e_Row.sz a_2 (t55.xs).length c_2 (flat e_Row t55.xs) :: vals t55.xs :: StR k17 s55 :: row e_Row.T e_Row.sz a70 (ys70).length c70 (flat e_Row ys70) :: vals ys70 :: row e8.T e8.sz v61.f_Value.a (v61.f_Value.xs).length v61.f_Value.c (flat e8 v61.f_Value.xs) :: blk b9 (.cells #[.int .i64 x50.f_Kind, .int .i64 x50.f_N, .string x50.f_Key, .slice x50.f_Value.a (x50.f_Value.xs).length x50.f_Value.c] 32 (0, 0)) :: F) (fun w S => S.perm List.perm_append_comm) ?_
   refine o_call rfl cal20 rfl (same_ (xs := ys70) (ys := t55.xs) (c := c70) (c2 := c_2) (rds_own e_Row_ok 4 rfl) (rds_own e_Row_ok 1 rfl) (fun x hx => rds_vals 5 rfl hx) (fun x hx => rds_vals 2 rfl hx) (by have h9 := rows_len hys70; rw [M_len] at h9; have h8 := hs2.len; omega)) ?_
   rintro _ _ ⟨bb76, hbb76, rfl, rfl⟩
   refine l_nil ?_
   refine q_conv (L' := (blk m45 (.cells #[.int .i64 t55.n, .slice a_2 (t55.xs).length c_2] 54 (0, 0)) :: row e_Row.T e_Row.sz a_2 (t55.xs).length c_2 (flat e_Row t55.xs) :: vals t55.xs :: StR k17 s55 :: row e_Row.T e_Row.sz a70 (ys70).length c70 (flat e_Row ys70) :: vals ys70 :: row e8.T e8.sz v61.f_Value.a (v61.f_Value.xs).length v61.f_Value.c (flat e8 v61.f_Value.xs) :: blk b9 (.cells #[.int .i64 x50.f_Kind, .int .i64 x50.f_N, .string x50.f_Key, .slice x50.f_Value.a (x50.f_Value.xs).length x50.f_Value.c] 32 (0, 0)) :: F) ++ []) (fun w S => S.perm (List.perm_append_comm (l₁ := []) (l₂ := blk m45 (.cells #[.int .i64 t55.n, .slice a_2 (t55.xs).length c_2] 54 (0, 0)) :: row e_Row.T e_Row.sz a_2 (t55.xs).length c_2 (flat e_Row t55.xs) :: vals t55.xs :: StR k17 s55 :: row e_Row.T e_Row.sz a70 (ys70).length c70 (flat e_Row ys70) :: vals ys70 :: row e8.T e8.sz v61.f_Value.a (v61.f_Value.xs).length v61.f_Value.c (flat e8 v61.f_Value.xs) :: blk b9 (.cells #[.int .i64 x50.f_Kind, .int .i64 x50.f_N, .string x50.f_Key, .slice x50.f_Value.a (x50.f_Value.xs).length x50.f_Value.c] 32 (0, 0)) :: F))) ?_
   refine h_next ?_
   have hb76 : bb76 = true := hbb76.2 (by rw [hys70, hs2.M]; rfl)
   refine h_eq (t := 76) (v' := .bool true) rfl (by rw [hb76]) ?_
   refine h_take 6 rfl rfl (by kernel_rfl) (by kernel_rfl) (by kernel_rfl) (fun L0 => v_not rfl rfl) ?_
   refine h_take 7 rfl rfl (by kernel_rfl) (by kernel_rfl) (by kernel_rfl) (fun L0 => v_move rfl rfl) ?_
   refine h_take_yes 8 rfl rfl rfl rfl rfl (by kernel_rfl) (by kernel_rfl) (by kernel_rfl) (fun L0 => v_fieldAddr (q := ⟨b9, 2, none⟩) rfl rfl Try.underlying32 rfl ti9 rfl) ?_
   refine h_take_yes 9 rfl rfl rfl rfl rfl (by kernel_rfl) (by kernel_rfl) (by kernel_rfl) (fun L0 => v_load1 rfl rfl Try.underlying9 rfl (rd_mem 7 rfl rfl)) ?_
   refine h_take_yes 10 rfl rfl rfl rfl rfl (by kernel_rfl) (by kernel_rfl) (by kernel_rfl) (fun L0 => v_fieldAddr (q := ⟨b9, 1, none⟩) rfl rfl Try.underlying32 rfl ti3 rfl) ?_
   refine h_take_yes 11 rfl rfl rfl rfl rfl (by kernel_rfl) (by kernel_rfl) (by kernel_rfl) (fun L0 => v_load1 rfl rfl Try.underlying3 rfl (rd_mem 7 rfl rfl)) ?_
   refine h_take_yes 13 rfl rfl rfl rfl rfl (by kernel_rfl) (by kernel_rfl) (by kernel_rfl) (fun L0 => v_fieldAddr (q := ⟨b9, 2, none⟩) rfl rfl Try.underlying32 rfl ti9 rfl) ?_
   refine h_take_yes 14 rfl rfl rfl rfl rfl (by kernel_rfl) (by kernel_rfl) (by kernel_rfl) (fun L0 => v_load1 rfl rfl Try.underlying9 rfl (rd_mem 7 rfl rfl)) ?_
   refine h_take_yes 15 rfl rfl rfl rfl rfl (by kernel_rfl) (by kernel_rfl) (by kernel_rfl) (fun L0 => v_fieldAddr (q := ⟨b9, 1, none⟩) rfl rfl Try.underlying32 rfl ti3 rfl) ?_
   refine h_take_yes 16 rfl rfl rfl rfl rfl (by kernel_rfl) (by kernel_rfl) (by kernel_rfl) (fun L0 => v_load1 rfl rfl Try.underlying3 rfl (rd_mem 7 rfl rfl)) ?_
   refine h_one 12 rfl (by kernel_rfl) ?_
   refine l_conv (L' := blk m45 (.cells #[.int .i64 t55.n, .slice a_2 (t55.xs).length c_2] 54 (0, 0)) :: row e_Row.T e_Row.sz a_2 (t55.xs).length c_2 (flat e_Row t55.xs) :: vals t55.xs :: StR k17 s55 :: row e_Row.T e_Row.sz a70 (ys70).length c70 (flat e_Row ys70) :: vals ys70 :: row e8.T e8.sz v61.f_Value.a (v61.f_Value.xs).length v61.f_Value.c (flat e8 v61.f_Value.xs) :: blk b9 (.cells #[.int .i64 x50.f_Kind, .int .i64 x50.f_N, .string x50.f_Key, .slice x50.f_Value.a (x50.f_Value.xs).length x50.f_Value.c] 32 (0, 0)) :: F) (fun w S => S.perm List.perm_append_comm) ?_
   refine o_yes rfl rfl rfl ?_
   refine o_call rfl cal14 rfl (default_ (k := x50.f_Key) (n := x50.f_N) (by have h9 := (hgo.all x50 (List.mem_of_getElem? hx50)).1; omega)) ?_
   rintro _ _ ⟨rfl, rfl⟩
   refine l_nil ?_
   refine q_conv (L' := (blk m45 (.cells #[.int .i64 t55.n, .slice a_2 (t55.xs).length c_2] 54 (0, 0)) :: row e_Row.T e_Row.sz a_2 (t55.xs).length c_2 (flat e_Row t55.xs) :: vals t55.xs :: StR k17 s55 :: row e_Row.T e_Row.sz a70 (ys70).length c70 (flat e_Row ys70) :: vals ys70 :: row e8.T e8.sz v61.f_Value.a (v61.f_Value.xs).length v61.f_Value.c (flat e8 v61.f_Value.xs) :: blk b9 (.cells #[.int .i64 x50.f_Kind, .int .i64 x50.f_N, .string x50.f_Key, .slice x50.f_Value.a (x50.f_Value.xs).length x50.f_Value.c] 32 (0, 0)) :: F) ++ []) (fun w S => S.perm (List.perm_append_comm (l₁ := []) (l₂ := blk m45 (.cells #[.int .i64 t55.n, .slice a_2 (t55.xs).length c_2] 54 (0, 0)) :: row e_Row.T e_Row.sz a_2 (t55.xs).length c_2 (flat e_Row t55.xs) :: vals t55.xs :: StR k17 s55 :: row e_Row.T e_Row.sz a70 (ys70).length c70 (flat e_Row ys70) :: vals ys70 :: row e8.T e8.sz v61.f_Value.a (v61.f_Value.xs).length v61.f_Value.c (flat e8 v61.f_Value.xs) :: blk b9 (.cells #[.int .i64 x50.f_Kind, .int .i64 x50.f_N, .string x50.f_Key, .slice x50.f_Value.a (x50.f_Value.xs).length x50.f_Value.c] 32 (0, 0)) :: F))) ?_
   refine h_next ?_
   refine h_one 17 rfl (by kernel_rfl) ?_
   refine l_conv (L' := blk m45 (.cells #[.int .i64 t55.n, .slice a_2 (t55.xs).length c_2] 54 (0, 0)) :: row e_Row.T e_Row.sz a_2 (t55.xs).length c_2 (flat e_Row t55.xs) :: vals t55.xs :: StR k17 s55 :: row e_Row.T e_Row.sz a70 (ys70).length c70 (flat e_Row ys70) :: vals ys70 :: row e8.T e8.sz v61.f_Value.a (v61.f_Value.xs).length v61.f_Value.c (flat e8 v61.f_Value.xs) :: blk b9 (.cells #[.int .i64 x50.f_Kind, .int .i64 x50.f_N, .string x50.f_Key, .slice x50.f_Value.a (x50.f_Value.xs).length x50.f_Value.c] 32 (0, 0)) :: F) (fun w S => S.perm List.perm_append_comm) ?_
   refine o_yes rfl rfl rfl ?_
   refine o_call rfl cal23 rfl (rdefault_ (k := x50.f_Key) (n := x50.f_N) (by have h9 := (hgo.all x50 (List.mem_of_getElem? hx50)).1; omega) (hN _ (List.mem_of_getElem? hx50))) ?_
   rintro _ _ ⟨rfl, rfl⟩
   refine l_nil ?_
   refine q_conv (L' := (blk m45 (.cells #[.int .i64 t55.n, .slice a_2 (t55.xs).length c_2] 54 (0, 0)) :: row e_Row.T e_Row.sz a_2 (t55.xs).length c_2 (flat e_Row t55.xs) :: vals t55.xs :: StR k17 s55 :: row e_Row.T e_Row.sz a70 (ys70).length c70 (flat e_Row ys70) :: vals ys70 :: row e8.T e8.sz v61.f_Value.a (v61.f_Value.xs).length v61.f_Value.c (flat e8 v61.f_Value.xs) :: blk b9 (.cells #[.int .i64 x50.f_Kind, .int .i64 x50.f_N, .string x50.f_Key, .slice x50.f_Value.a (x50.f_Value.xs).length x50.f_Value.c] 32 (0, 0)) :: F) ++ []) (fun w S => S.perm (List.perm_append_comm (l₁ := []) (l₂ := blk m45 (.cells #[.int .i64 t55.n, .slice a_2 (t55.xs).length c_2] 54 (0, 0)) :: row e_Row.T e_Row.sz a_2 (t55.xs).length c_2 (flat e_Row t55.xs) :: vals t55.xs :: StR k17 s55 :: row e_Row.T e_Row.sz a70 (ys70).length c70 (flat e_Row ys70) :: vals ys70 :: row e8.T e8.sz v61.f_Value.a (v61.f_Value.xs).length v61.f_Value.c (flat e8 v61.f_Value.xs) :: blk b9 (.cells #[.int .i64 x50.f_Kind, .int .i64 x50.f_N, .string x50.f_Key, .slice x50.f_Value.a (x50.f_Value.xs).length x50.f_Value.c] 32 (0, 0)) :: F))) ?_
   refine h_next ?_
   refine h_take_yes 18 rfl rfl rfl rfl rfl (by kernel_rfl) (by kernel_rfl) (by kernel_rfl) (fun L0 => v_bin rfl rfl rfl b_neq) ?_
   refine h_eq (t := 89) (v' := .bool false) rfl (show _ = Value.bool false from by simp) ?_
   refine h_take 19 rfl rfl (by kernel_rfl) (by kernel_rfl) (by kernel_rfl) (fun L0 => v_pick_false rfl rfl rfl) ?_
   refine h_done (by kernel_rfl) ?_
   refine q_conv (L' := blk m45 (.cells #[.int .i64 t55.n, .slice a_2 (t55.xs).length c_2] 54 (0, 0)) :: row e_Row.T e_Row.sz a_2 (t55.xs).length c_2 (flat e_Row t55.xs) :: vals t55.xs :: StR k17 s55 :: row e_Row.T e_Row.sz a70 (ys70).length c70 (flat e_Row ys70) :: vals ys70 :: row e8.T e8.sz v61.f_Value.a (v61.f_Value.xs).length v61.f_Value.c (flat e8 v61.f_Value.xs) :: blk b9 (.cells #[.int .i64 x50.f_Kind, .int .i64 x50.f_N, .string x50.f_Key, .slice x50.f_Value.a (x50.f_Value.xs).length x50.f_Value.c] 32 (0, 0)) :: F) (fun w S => S.perm List.perm_append_comm) ?_
   refine q_then ?_
   refine c_false rfl ?_
   refine c_skip ?_
   refine q_then ?_
   refine c_region ?_
   refine o_move rfl rfl ?_
   refine l_f5 ?_
   refine l_f5 ?_
   refine o_call rfl cal24 rfl (spoil_ (ys := ys70) (c := c70) (by have h9 := rows_len hys70; rw [M_len] at h9; have h8 := hs2.len; omega) (vals_small hok2 fun z hz => by rw [hys70] at hz; exact hz)) ?_
   rintro _ _ rfl
   refine l_nil ?_
   refine q_block ?_
   refine q_then ?_
   refine c_region ?_
   refine o_bin rfl rfl rfl (b_add (wrap_i64 (by omega) (by omega))) ?_
   refine o_move rfl rfl ?_
   refine l_nil ?_
   refine q_conv (L' := RfR m45 t55 :: _) (fun w S => Sat.obj_mk ⟨a_2, c_2⟩ ok_2 S) ?_
   refine q_conv (fun w S => (S.perm p2).tail) ?_
   refine q_conv (fun w S => (S.perm p2).tail) ?_
   exact q_round (i + 1, s55, t55) (by exact ⟨by omega, hs2⟩) (by (try dsimp only); omega) ⟨(by first | rfl | exact vint (by omega)), (by first | rfl | exact vint (by omega)), (by first | rfl | exact vint (by omega)), (by first | rfl | exact vint (by omega)), (by first | rfl | exact vint (by omega)), trivial⟩ (fun w S => S)
  · -- h2F
   have h2b := h2
   try simp only [decide_eq_false_iff_not, Int.not_lt, Int.not_le] at h2
   refine c_exit ?_
   refine q_pass_exit ?_
   refine q_pass_exit ?_
   refine q_hit ?_
   refine q_then ?_
   refine c_seq ?_
   refine c_fact (p := OkS tl ∧ Srt ItA.f_key strlt tl.xs) (fun w S => RfR_ok S) fun hokr => ?_
   refine c_conv (fun w S => S.perm p1) ?_
   refine c_fact (p := OkS sl) (fun w S => StR_ok S) fun hok => ?_
   refine c_conv (fun w S => S.perm p1) ?_
   refine c_obj ?_
   rintro ⟨a_3, c_3⟩ ok_3
   refine c_conv (L' := blk m45 (.cells #[.int .i64 tl.n, .slice a_3 (tl.xs).length c_3] 54 (0, 0)) :: row e_Row.T e_Row.sz a_3 (tl.xs).length c_3 (flat e_Row tl.xs) :: vals tl.xs :: _) (fun w S => S) ?_
   refine c_conv (fun w S => S.perm p2) ?_
   refine c_conv (fun w S => S.perm p2) ?_
   refine c_conv (fun w S => S.perm p2) ?_
   refine c_conv (fun w S => S.perm p3) ?_
   refine c_conv (fun w S => S.perm p3) ?_
   refine c_conv (fun w S => S.perm p3) ?_
   refine c_conv (fun w S => S.perm p3) ?_
   refine c_heldF [blk m45 (.cells #[.int .i64 tl.n, .slice a_3 (tl.xs).length c_3] 54 (0, 0)), row e_Row.T e_Row.sz a_3 (tl.xs).length c_3 (flat e_Row tl.xs), vals tl.xs] (StR k17 sl :: F) (by kernel_rfl) ?_
   refine h_take 0 rfl rfl (by kernel_rfl) (by kernel_rfl) (by kernel_rfl) (fun L0 => v_move rfl rfl) ?_
   refine h_take 2 rfl rfl (by kernel_rfl) (by kernel_rfl) (by kernel_rfl) (fun L0 => v_move rfl rfl) ?_
   refine h_take 3 rfl rfl (by kernel_rfl) (by kernel_rfl) (by kernel_rfl) (fun L0 => v_nil rfl rfl) ?_
   refine h_take 4 rfl rfl (by kernel_rfl) (by kernel_rfl) (by kernel_rfl) (fun L0 => v_fieldAddr (q := ⟨m45, 1, none⟩) rfl rfl Try.underlying54 rfl ti43 rfl) ?_
   refine h_many (is := [1, 5]) (by kernel_rfl) (by decide) (forall_cons ⟨_, rfl, ?_⟩ (forall_cons ⟨_, rfl, ?_⟩ forall_nil))
   · -- 1 comes first
    refine l_conv (L' := blk m45 (.cells #[.int .i64 tl.n, .slice a_3 (tl.xs).length c_3] 54 (0, 0)) :: row e_Row.T e_Row.sz a_3 (tl.xs).length c_3 (flat e_Row tl.xs) :: vals tl.xs :: StR k17 sl :: F) (fun w S => S.perm List.perm_append_comm) ?_
    refine l_f3 ?_
    refine o_call rfl cal22 rfl (rows6_ (by have h8 := hsc.len; omega)) ?_
    rintro _ _ ⟨ys95, a95, c95, hys95, rfl, rfl⟩
    refine l_nil ?_
    refine q_conv (fun w S => S.perm p2) ?_
    refine q_conv (fun w S => S.perm p5) ?_
    refine q_conv (fun w S => S.perm p5) ?_
    refine q_conv (fun w S => S.perm p5) ?_
    refine q_conv (fun w S => S.perm p5) ?_
    refine q_conv (fun w S => S.perm p5) ?_
    refine q_conv (L' := (StR k17 sl :: F) ++ [row e_Row.T e_Row.sz a95 (ys95).length c95 (flat e_Row ys95), vals ys95, blk m45 (.cells #[.int .i64 tl.n, .slice a_3 (tl.xs).length c_3] 54 (0, 0)), row e_Row.T e_Row.sz a_3 (tl.xs).length c_3 (flat e_Row tl.xs), vals tl.xs]) (fun w S => S.perm (List.perm_append_comm (l₁ := [row e_Row.T e_Row.sz a95 (ys95).length c95 (flat e_Row ys95), vals ys95, blk m45 (.cells #[.int .i64 tl.n, .slice a_3 (tl.xs).length c_3] 54 (0, 0)), row e_Row.T e_Row.sz a_3 (tl.xs).length c_3 (flat e_Row tl.xs), vals tl.xs]) (l₂ := StR k17 sl :: F))) ?_
    refine h_next ?_
    refine h_one 5 rfl (by kernel_rfl) ?_
    refine l_conv (L' := row e_Row.T e_Row.sz a95 (ys95).length c95 (flat e_Row ys95) :: vals ys95 :: blk m45 (.cells #[.int .i64 tl.n, .slice a_3 (tl.xs).length c_3] 54 (0, 0)) :: row e_Row.T e_Row.sz a_3 (tl.xs).length c_3 (flat e_Row tl.xs) :: vals tl.xs :: StR k17 sl :: F) (fun w S => S.perm List.perm_append_comm) ?_
    refine o_load1 rfl rfl Try.underlying43 rfl (rd_mem 2 rfl rfl) ?_
    refine l_nil ?_
    refine q_conv (L' := (StR k17 sl :: F) ++ [row e_Row.T e_Row.sz a95 (ys95).length c95 (flat e_Row ys95), vals ys95, blk m45 (.cells #[.int .i64 tl.n, .slice a_3 (tl.xs).length c_3] 54 (0, 0)), row e_Row.T e_Row.sz a_3 (tl.xs).length c_3 (flat e_Row tl.xs), vals tl.xs]) (fun w S => S.perm (List.perm_append_comm (l₁ := [row e_Row.T e_Row.sz a95 (ys95).length c95 (flat e_Row ys95), vals ys95, blk m45 (.cells #[.int .i64 tl.n, .slice a_3 (tl.xs).length c_3] 54 (0, 0)), row e_Row.T e_Row.sz a_3 (tl.xs).length c_3 (flat e_Row tl.xs), vals tl.xs]) (l₂ := StR k17 sl :: F))) ?_
    refine h_next ?_
    refine h_one 6 rfl (by kernel_rfl) ?_
    refine l_conv (L' := row e_Row.T e_Row.sz a95 (ys95).length c95 (flat e_Row ys95) :: vals ys95 :: blk m45 (.cells #[.int .i64 tl.n, .slice a_3 (tl.xs).length c_3] 54 (0, 0)) :: row e_Row.T e_Row.sz a_3 (tl.xs).length c_3 (flat e_Row tl.xs) :: vals tl.xs :: StR k17 sl :: F) (fun w S => S.perm List.perm_append_comm) ?_
    refine o_call rfl cal20 rfl (same_ (xs := ys95) (ys := tl.xs) (c := c95) (c2 := c_3) (rds_own e_Row_ok 0 rfl) (rds_own e_Row_ok 3 rfl) (fun x hx => rds_vals 1 rfl hx) (fun x hx => rds_vals 4 rfl hx) (by have h9 := rows_len hys95; rw [M_len] at h9; have h8 := hsc.len; omega)) ?_
    rintro _ _ ⟨bb100, hbb100, rfl, rfl⟩
    refine l_nil ?_
    refine q_conv (L' := (StR k17 sl :: F) ++ [row e_Row.T e_Row.sz a95 (ys95).length c95 (flat e_Row ys95), vals ys95, blk m45 (.cells #[.int .i64 tl.n, .slice a_3 (tl.xs).length c_3] 54 (0, 0)), row e_Row.T e_Row.sz a_3 (tl.xs).length c_3 (flat e_Row tl.xs), vals tl.xs]) (fun w S => S.perm (List.perm_append_comm (l₁ := [row e_Row.T e_Row.sz a95 (ys95).length c95 (flat e_Row ys95), vals ys95, blk m45 (.cells #[.int .i64 tl.n, .slice a_3 (tl.xs).length c_3] 54 (0, 0)), row e_Row.T e_Row.sz a_3 (tl.xs).length c_3 (flat e_Row tl.xs), vals tl.xs]) (l₂ := StR k17 sl :: F))) ?_
    refine h_next ?_
    have hb100 : bb100 = true := hbb100.2 (by rw [hys95, hsc.M]; rfl)
    refine h_eq (t := 100) (v' := .bool true) rfl (by rw [hb100]) ?_
    refine h_take 7 rfl rfl (by kernel_rfl) (by kernel_rfl) (by kernel_rfl) (fun L0 => v_move rfl rfl) ?_
    refine h_take_yes 8 rfl rfl rfl rfl rfl (by kernel_rfl) (by kernel_rfl) (by kernel_rfl) (fun L0 => v_move rfl rfl) ?_
    refine h_take_yes 11 rfl rfl rfl rfl rfl (by kernel_rfl) (by kernel_rfl) (by kernel_rfl) (fun L0 => v_move rfl rfl) ?_
    refine h_one 9 rfl (by kernel_rfl) ?_
    refine l_conv (L' := row e_Row.T e_Row.sz a95 (ys95).length c95 (flat e_Row ys95) :: vals ys95 :: blk m45 (.cells #[.int .i64 tl.n, .slice a_3 (tl.xs).length c_3] 54 (0, 0)) :: row e_Row.T e_Row.sz a_3 (tl.xs).length c_3 (flat e_Row tl.xs) :: vals tl.xs :: StR k17 sl :: F) (fun w S => S.perm List.perm_append_comm) ?_
    refine o_yes rfl rfl rfl ?_
    refine l_f5 ?_
    refine o_call rfl cal25 rfl (snap_ ⟨hok, fun z hz => Nat.le_trans (hsc.key z hz) (by decide), by have h8 := hsc.len; omega⟩) ?_
    rintro _ _ ⟨a103, c103, rfl, rfl⟩
    refine l_nil ?_
    refine q_conv (fun w S => S.perm p1) ?_
    refine q_conv (fun w S => S.perm p6) ?_
    refine q_conv (fun w S => S.perm p6) ?_
    refine q_conv (fun w S => S.perm p6) ?_
    refine q_conv (fun w S => S.perm p6) ?_
    refine q_conv (fun w S => S.perm p6) ?_
    refine q_conv (fun w S => S.perm p6) ?_
    refine q_conv (L' := (StR k17 sl :: F) ++ [row e8.T e8.sz a103 ((snapB sl.n sl.M)).length c103 (flat e8 (snapB sl.n sl.M)), row e_Row.T e_Row.sz a95 (ys95).length c95 (flat e_Row ys95), vals ys95, blk m45 (.cells #[.int .i64 tl.n, .slice a_3 (tl.xs).length c_3] 54 (0, 0)), row e_Row.T e_Row.sz a_3 (tl.xs).length c_3 (flat e_Row tl.xs), vals tl.xs]) (fun w S => S.perm (List.perm_append_comm (l₁ := [row e8.T e8.sz a103 ((snapB sl.n sl.M)).length c103 (flat e8 (snapB sl.n sl.M)), row e_Row.T e_Row.sz a95 (ys95).length c95 (flat e_Row ys95), vals ys95, blk m45 (.cells #[.int .i64 tl.n, .slice a_3 (tl.xs).length c_3] 54 (0, 0)), row e_Row.T e_Row.sz a_3 (tl.xs).length c_3 (flat e_Row tl.xs), vals tl.xs]) (l₂ := StR k17 sl :: F))) ?_
    refine h_next ?_
    refine h_many (is := [10, 12]) (by kernel_rfl) (by decide) (forall_cons ⟨_, rfl, ?_⟩ (forall_cons ⟨_, rfl, ?_⟩ forall_nil))
    · -- 10 comes first
     refine l_conv (L' := row e8.T e8.sz a103 ((snapB sl.n sl.M)).length c103 (flat e8 (snapB sl.n sl.M)) :: row e_Row.T e_Row.sz a95 (ys95).length c95 (flat e_Row ys95) :: vals ys95 :: blk m45 (.cells #[.int .i64 tl.n, .slice a_3 (tl.xs).length c_3] 54 (0, 0)) :: row e_Row.T e_Row.sz a_3 (tl.xs).length c_3 (flat e_Row tl.xs) :: vals tl.xs :: StR k17 sl :: F) (fun w S => S.perm List.perm_append_comm) ?_
     refine o_yes rfl rfl rfl ?_
     refine o_bytesStr (e := e8) rfl rfl rfl Try.underlying23 Try.underlying5 Try.underlying9 (rds_own e8_ok 0 rfl) ?_
     refine l_nil ?_
     refine q_conv (L' := (StR k17 sl :: F) ++ [row e8.T e8.sz a103 ((snapB sl.n sl.M)).length c103 (flat e8 (snapB sl.n sl.M)), row e_Row.T e_Row.sz a95 (ys95).length c95 (flat e_Row ys95), vals ys95, blk m45 (.cells #[.int .i64 tl.n, .slice a_3 (tl.xs).length c_3] 54 (0, 0)), row e_Row.T e_Row.sz a_3 (tl.xs).length c_3 (flat e_Row tl.xs), vals tl.xs]) (fun w S => S.perm (List.perm_append_comm (l₁ := [row e8.T e8.sz a103 ((snapB sl.n sl.M)).length c103 (flat e8 (snapB sl.n sl.M)), row e_Row.T e_Row.sz a95 (ys95).length c95 (flat e_Row ys95), vals ys95, blk m45 (.cells #[.int .i64 tl.n, .slice a_3 (tl.xs).length c_3] 54 (0, 0)), row e_Row.T e_Row.sz a_3 (tl.xs).length c_3 (flat e_Row tl.xs), vals tl.xs]) (l₂ := StR k17 sl :: F))) ?_
     refine h_next ?_
     refine h_one 12 rfl (by kernel_rfl) ?_
     refine l_conv (L' := row e8.T e8.sz a103 ((snapB sl.n sl.M)).length c103 (flat e8 (snapB sl.n sl.M)) :: row e_Row.T e_Row.sz a95 (ys95).length c95 (flat e_Row ys95) :: vals ys95 :: blk m45 (.cells #[.int .i64 tl.n, .slice a_3 (tl.xs).length c_3] 54 (0, 0)) :: row e_Row.T e_Row.sz a_3 (tl.xs).length c_3 (flat e_Row tl.xs) :: vals tl.xs :: StR k17 sl :: F) (fun w S => S.perm List.perm_append_comm) ?_
     refine o_yes rfl rfl rfl ?_
     refine l_conv (fun w S => S.perm p6) ?_
     refine l_conv (fun w S => S.perm p3) ?_
     refine l_conv (fun w S => S.perm p3) ?_
     refine l_conv (fun w S => S.perm p3) ?_
     refine l_conv (fun w S => S.perm p6) ?_
     refine l_conv (fun w S => S.perm p6) ?_
     refine l_conv (fun w S => S.perm p6) ?_
     refine l_conv (L' := RfR m45 tl :: _) (fun w S => Sat.obj_mk ⟨a_3, c_3⟩ ok_3 S) ?_
     refine o_call rfl cal26 rfl (rsnap_ ⟨hokr.1, fun z hz => by rw [← hsc.M] at hz; exact Nat.le_trans (hsc.key z hz) (by decide), by have h9 := rows_len hsc.M; rw [M_len] at h9; have h8 := hsc.len; omega⟩) ?_
     rintro _ _ ⟨a106, c106, rfl, rfl⟩
     refine l_nil ?_
     refine q_conv (L' := (StR k17 sl :: F) ++ [row e8.T e8.sz a106 ((snapB tl.n tl.M)).length c106 (flat e8 (snapB tl.n tl.M)), RfR m45 tl, row e8.T e8.sz a103 ((snapB sl.n sl.M)).length c103 (flat e8 (snapB sl.n sl.M)), row e_Row.T e_Row.sz a95 (ys95).length c95 (flat e_Row ys95), vals ys95]) (fun w S => S.perm (List.perm_append_comm (l₁ := [row e8.T e8.sz a106 ((snapB tl.n tl.M)).length c106 (flat e8 (snapB tl.n tl.M)), RfR m45 tl, row e8.T e8.sz a103 ((snapB sl.n sl.M)).length c103 (flat e8 (snapB sl.n sl.M)), row e_Row.T e_Row.sz a95 (ys95).length c95 (flat e_Row ys95), vals ys95]) (l₂ := StR k17 sl :: F))) ?_
     refine h_next ?_
     refine h_one 13 rfl (by kernel_rfl) ?_
     refine l_conv (L' := row e8.T e8.sz a106 ((snapB tl.n tl.M)).length c106 (flat e8 (snapB tl.n tl.M)) :: RfR m45 tl :: row e8.T e8.sz a103 ((snapB sl.n sl.M)).length c103 (flat e8 (snapB sl.n sl.M)) :: row e_Row.T e_Row.sz a95 (ys95).length c95 (flat e_Row ys95) :: vals ys95 :: StR k17 sl :: F) (fun w S => S.perm List.perm_append_comm) ?_
     refine o_yes rfl rfl rfl ?_
     refine o_bytesStr (e := e8) rfl rfl rfl Try.underlying23 Try.underlying5 Try.underlying9 (rds_own e8_ok 0 rfl) ?_
     refine l_nil ?_
     refine q_conv (L' := (StR k17 sl :: F) ++ [row e8.T e8.sz a106 ((snapB tl.n tl.M)).length c106 (flat e8 (snapB tl.n tl.M)), RfR m45 tl, row e8.T e8.sz a103 ((snapB sl.n sl.M)).length c103 (flat e8 (snapB sl.n sl.M)), row e_Row.T e_Row.sz a95 (ys95).length c95 (flat e_Row ys95), vals ys95]) (fun w S => S.perm (List.perm_append_comm (l₁ := [row e8.T e8.sz a106 ((snapB tl.n tl.M)).length c106 (flat e8 (snapB tl.n tl.M)), RfR m45 tl, row e8.T e8.sz a103 ((snapB sl.n sl.M)).length c103 (flat e8 (snapB sl.n sl.M)), row e_Row.T e_Row.sz a95 (ys95).length c95 (flat e_Row ys95), vals ys95]) (l₂ := StR k17 sl :: F))) ?_
     refine h_next ?_
     refine h_take_yes 14 rfl rfl rfl rfl rfl (by kernel_rfl) (by kernel_rfl) (by kernel_rfl) (fun L0 => v_bin rfl rfl rfl b_seql) ?_
     refine h_eq (t := 108) (v' := .bool true) rfl (show _ = Value.bool true from by rw [decide_eq_true (by rw [hsc.n1, hsc.n2, hsc.M])]) ?_
     refine h_take 15 rfl rfl (by kernel_rfl) (by kernel_rfl) (by kernel_rfl) (fun L0 => v_pick_true rfl rfl rfl) ?_
     refine h_take 16 rfl rfl (by kernel_rfl) (by kernel_rfl) (by kernel_rfl) (fun L0 => v_assign rfl rfl) ?_
     refine h_done (by kernel_rfl) ?_
     refine q_conv (L' := row e8.T e8.sz a106 ((snapB tl.n tl.M)).length c106 (flat e8 (snapB tl.n tl.M)) :: RfR m45 tl :: row e8.T e8.sz a103 ((snapB sl.n sl.M)).length c103 (flat e8 (snapB sl.n sl.M)) :: row e_Row.T e_Row.sz a95 (ys95).length c95 (flat e_Row ys95) :: vals ys95 :: StR k17 sl :: F) (fun w S => S.perm List.perm_append_comm) ?_
     refine q_then ?_
     refine c_ret ?_
     refine q_conv (fun w S => S.tail) ?_
     refine q_conv (fun w S => S.tail) ?_
     refine q_conv (fun w S => S.tail) ?_
     refine q_conv (fun w S => S.tail) ?_
     refine q_conv (fun w S => S.tail) ?_
     refine q_conv (fun w S => S.tail) ?_
     exact f_ret (r_one rfl rfl) (⟨rfl, rfl⟩) (fun w S => S)
    · -- 12 comes first
     refine l_conv (L' := row e8.T e8.sz a103 ((snapB sl.n sl.M)).length c103 (flat e8 (snapB sl.n sl.M)) :: row e_Row.T e_Row.sz a95 (ys95).length c95 (flat e_Row ys95) :: vals ys95 :: blk m45 (.cells #[.int .i64 tl.n, .slice a_3 (tl.xs).length c_3] 54 (0, 0)) :: row e_Row.T e_Row.sz a_3 (tl.xs).length c_3 (flat e_Row tl.xs) :: vals tl.xs :: StR k17 sl :: F) (fun w S => S.perm List.perm_append_comm) ?_
     refine o_yes rfl rfl rfl ?_
     refine l_conv (fun w S => S.perm p6) ?_
     refine l_conv (fun w S => S.perm p3) ?_
     refine l_conv (fun w S => S.perm p3) ?_
     refine l_conv (fun w S => S.perm p3) ?_
     refine l_conv (fun w S => S.perm p6) ?_
     refine l_conv (fun w S => S.perm p6) ?_
     refine l_conv (fun w S => S.perm p6) ?_
     refine l_conv (L' := RfR m45 tl :: _) (fun w S => Sat.obj_mk ⟨a_3, c_3⟩ ok_3 S) ?_
     refine o_call rfl cal26 rfl (rsnap_ ⟨hokr.1, fun z hz => by rw [← hsc.M] at hz; exact Nat.le_trans (hsc.key z hz) (by decide), by have h9 := rows_len hsc.M; rw [M_len] at h9; have h8 := hsc.len; omega⟩) ?_
     rintro _ _ ⟨a106, c106, rfl, rfl⟩
     refine l_nil ?_
     refine q_conv (L' := (StR k17 sl :: F) ++ [row e8.T e8.sz a106 ((snapB tl.n tl.M)).length c106 (flat e8 (snapB tl.n tl.M)), RfR m45 tl, row e8.T e8.sz a103 ((snapB sl.n sl.M)).length c103 (flat e8 (snapB sl.n sl.M)), row e_Row.T e_Row.sz a95 (ys95).length c95 (flat e_Row ys95), vals ys95]) (fun w S => S.perm (List.perm_append_comm (l₁ := [row e8.T e8.sz a106 ((snapB tl.n tl.M)).length c106 (flat e8 (snapB tl.n tl.M)), RfR m45 tl, row e8.T e8.sz a103 ((snapB sl.n sl.M)).length c103 (flat e8 (snapB sl.n sl.M)), row e_Row.T e_Row.sz a95 (ys95).length c95 (flat e_Row ys95), vals ys95]) (l₂ := StR k17 sl :: F))) ?_
     refine h_next ?_
     refine h_many (is := [10, 13]) (by kernel_rfl) (by decide) (forall_cons ⟨_, rfl, ?_⟩ (forall_cons ⟨_, rfl, ?_⟩ forall_nil))
     · -- 10 comes first
      refine l_conv (L' := row e8.T e8.sz a106 ((snapB tl.n tl.M)).length c106 (flat e8 (snapB tl.n tl.M)) :: RfR m45 tl :: row e8.T e8.sz a103 ((snapB sl.n sl.M)).length c103 (flat e8 (snapB sl.n sl.M)) :: row e_Row.T e_Row.sz a95 (ys95).length c95 (flat e_Row ys95) :: vals ys95 :: StR k17 sl :: F) (fun w S => S.perm List.perm_append_comm) ?_
      refine o_yes rfl rfl rfl ?_
      refine o_bytesStr (e := e8) rfl rfl rfl Try.underlying23 Try.underlying5 Try.underlying9 (rds_own e8_ok 2 rfl) ?_
      refine l_nil ?_
      refine q_conv (L' := (StR k17 sl :: F) ++ [row e8.T e8.sz a106 ((snapB tl.n tl.M)).length c106 (flat e8 (snapB tl.n tl.M)), RfR m45 tl, row e8.T e8.sz a103 ((snapB sl.n sl.M)).length c103 (flat e8 (snapB sl.n sl.M)), row e_Row.T e_Row.sz a95 (ys95).length c95 (flat e_Row ys95), vals ys95]) (fun w S => S.perm (List.perm_append_comm (l₁ := [row e8.T e8.sz a106 ((snapB tl.n tl.M)).length c106 (flat e8 (snapB tl.n tl.M)), RfR m45 tl, row e8.T e8.sz a103 ((snapB sl.n sl.M)).length c103 (flat e8 (snapB sl.n sl.M)), row e_Row.T e_Row.sz a95 (ys95).length c95 (flat e_Row ys95), vals ys95]) (l₂ := StR k17 sl :: F))) ?_
      refine h_next ?_
      refine h_one 13 rfl (by kernel_rfl) ?_
      refine l_conv (L' := row e8.T e8.sz a106 ((snapB tl.n tl.M)).length c106 (flat e8 (snapB tl.n tl.M)) :: RfR m45 tl :: row e8.T e8.sz a103 ((snapB sl.n sl.M)).length c103 (flat e8 (snapB sl.n sl.M)) :: row e_Row.T e_Row.sz a95 (ys95).length c95 (flat e_Row ys95) :: vals ys95 :: StR k17 sl :: F) (fun w S => S.perm List.perm_append_comm) ?_
      refine o_yes rfl rfl rfl ?_
      refine o_bytesStr (e := e8) rfl rfl rfl Try.underlying23 Try.underlying5 Try.underlying9 (rds_own e8_ok 0 rfl) ?_
      refine l_nil ?_
      refine q_conv (L' := (StR k17 sl :: F) ++ [row e8.T e8.sz a106 ((snapB tl.n tl.M)).length c106 (flat e8 (snapB tl.n tl.M)), RfR m45 tl, row e8.T e8.sz a103 ((snapB sl.n sl.M)).length c103 (flat e8 (snapB sl.n sl.M)), row e_Row.T e_Row.sz a95 (ys95).length c95 (flat e_Row ys95), vals ys95]) (fun w S => S.perm (List.perm_append_comm (l₁ := [row e8.T e8.sz a106 ((snapB tl.n tl.M)).length c106 (flat e8 (snapB tl.n tl.M)), RfR m45 tl, row e8.T e8.sz a103 ((snapB sl.n sl.M)).length c103 (flat e8 (snapB sl.n sl.M)), row e_Row.T e_Row.sz a95 (ys95).length c95 (flat e_Row ys95), vals ys95]) (l₂ := StR k17 sl :: F))) ?_
      refine h_next ?_
      refine h_take_yes 14 rfl rfl rfl rfl rfl (by kernel_rfl) (by kernel_rfl) (by kernel_rfl) (fun L0 => v_bin rfl rfl rfl b_seql) ?_
      refine h_eq (t := 108) (v' := .bool true) rfl (show _ = Value.bool true from by rw [decide_eq_true (by rw [hsc.n1, hsc.n2, hsc.M])]) ?_
      refine h_take 15 rfl rfl (by kernel_rfl) (by kernel_rfl) (by kernel_rfl) (fun L0 => v_pick_true rfl rfl rfl) ?_
      refine h_take 16 rfl rfl (by kernel_rfl) (by kernel_rfl) (by kernel_rfl) (fun L0 => v_assign rfl rfl) ?_
      refine h_done (by kernel_rfl) ?_
      refine q_conv (L' := row e8.T e8.sz a106 ((snapB tl.n tl.M)).length c106 (flat e8 (snapB tl.n tl.M)) :: RfR m45 tl :: row e8.T e8.sz a103 ((snapB sl.n sl.M)).length c103 (flat e8 (snapB sl.n sl.M)) :: row e_Row.T e_Row.sz a95 (ys95).length c95 (flat e_Row ys95) :: vals ys95 :: StR k17 sl :: F) (fun w S => S.perm List.perm_append_comm) ?_
      refine q_then ?_
      refine c_ret ?_
      refine q_conv (fun w S => S.tail) ?_
      refine q_conv (fun w S => S.tail) ?_
      refine q_conv (fun w S => S.tail) ?_
      refine q_conv (fun w S => S.tail) ?_
      refine q_conv (fun w S => S.tail) ?_
      refine q_conv (fun w S => S.tail) ?_
      exact f_ret (r_one rfl rfl) (⟨rfl, rfl⟩) (fun w S => S)
     · -- 13 comes first
      refine l_conv (L' := row e8.T e8.sz a106 ((snapB tl.n tl.M)).length c106 (flat e8 (snapB tl.n tl.M)) :: RfR m45 tl :: row e8.T e8.sz a103 ((snapB sl.n sl.M)).length c103 (flat e8 (snapB sl.n sl.M)) :: row e_Row.T e_Row.sz a95 (ys95).length c95 (flat e_Row ys95) :: vals ys95 :: StR k17 sl :: F) (fun w S => S.perm List.perm_append_comm) ?_
      refine o_yes rfl rfl rfl ?_
      refine o_bytesStr (e := e8) rfl rfl rfl Try.underlying23 Try.underlying5 Try.underlying9 (rds_own e8_ok 0 rfl) ?_
      refine l_nil ?_
      refine q_conv (L' := (StR k17 sl :: F) ++ [row e8.T e8.sz a106 ((snapB tl.n tl.M)).length c106 (flat e8 (snapB tl.n tl.M)), RfR m45 tl, row e8.T e8.sz a103 ((snapB sl.n sl.M)).length c103 (flat e8 (snapB sl.n sl.M)), row e_Row.T e_Row.sz a95 (ys95).length c95 (flat e_Row ys95), vals ys95]) (fun w S => S.perm (List.perm_append_comm (l₁ := [row e8.T e8.sz a106 ((snapB tl.n tl.M)).length c106 (flat e8 (snapB tl.n tl.M)), RfR m45 tl, row e8.T e8.sz a103 ((snapB sl.n sl.M)).length c103 (flat e8 (snapB sl.n sl.M)), row e_Row.T e_Row.sz a95 (ys95).length c95 (flat e_Row ys95), vals ys95]) (l₂ := StR k17 sl :: F))) ?_
      refine h_next ?_
      refine h_one 10 rfl (by kernel_rfl) ?_
      refine l_conv (L' := row e8.T e8.sz a106 ((snapB tl.n tl.M)).length c106 (flat e8 (snapB tl.n tl.M)) :: RfR m45 tl :: row e8.T e8.sz a103 ((snapB sl.n sl.M)).length c103 (flat e8 (snapB sl.n sl.M)) :: row e_Row.T e_Row.sz a95 (ys95).length c95 (flat e_Row ys95) :: vals ys95 :: StR k17 sl :: F) (fun w S => S.perm List.perm_append_comm) ?_
      refine o_yes rfl rfl rfl ?_
      refine o_bytesStr (e := e8) rfl rfl rfl Try.underlying23 Try.underlying5 Try.underlying9 (rds_own e8_ok 2 rfl) ?_
      refine l_nil ?_
      refine q_conv (L' := (StR k17 sl :: F) ++ [row e8.T e8.sz a106 ((snapB tl.n tl.M)).length c106 (flat e8 (snapB tl.n tl.M)), RfR m45 tl, row e8.T e8.sz a103 ((snapB sl.n sl.M)).length c103 (flat e8 (snapB sl.n sl.M)), row e_Row.T e_Row.sz a95 (ys95).length c95 (flat e_Row ys95), vals ys95]) (fun w S => S.perm (List.perm_append_comm (l₁ := [row e8.T e8.sz a106 ((snapB tl.n tl.M)).length c106 (flat e8 (snapB tl.n tl.M)), RfR m45 tl, row e8.T e8.sz a103 ((snapB sl.n sl.M)).length c103 (flat e8 (snapB sl.n sl.M)), row e_Row.T e_Row.sz a95 (ys95).length c95 (flat e_Row ys95), vals ys95]) (l₂ := StR k17 sl :: F))) ?_
      refine h_next ?_
      refine h_take_yes 14 rfl rfl rfl rfl rfl (by kernel_rfl) (by kernel_rfl) (by kernel_rfl) (fun L0 => v_bin rfl rfl rfl b_seql) ?_
      refine h_eq (t := 108) (v' := .bool true) rfl (show _ = Value.bool true from by rw [decide_eq_true (by rw [hsc.n1, hsc.n2, hsc.M])]) ?_
      refine h_take 15 rfl rfl (by kernel_rfl) (by kernel_rfl) (by kernel_rfl) (fun L0 => v_pick_true rfl rfl rfl) ?_
      refine h_take 16 rfl rfl (by kernel_rfl) (by kernel_rfl) (by kernel_rfl) (fun L0 => v_assign rfl rfl) ?_
      refine h_done (by kernel_rfl) ?_
      refine q_conv (L' := row e8.T e8.sz a106 ((snapB tl.n tl.M)).length c106 (flat e8 (snapB tl.n tl.M)) :: RfR m45 tl :: row e8.T e8.sz a103 ((snapB sl.n sl.M)).length c103 (flat e8 (snapB sl.n sl.M)) :: row e_Row.T e_Row.sz a95 (ys95).length c95 (flat e_Row ys95) :: vals ys95 :: StR k17 sl :: F) (fun w S => S.perm List.perm_append_comm) ?_
      refine q_then ?_
      refine c_ret ?_
      refine q_conv (fun w S => S.tail) ?_
      refine q_conv (fun w S => S.tail) ?_
      refine q_conv (fun w S => S.tail) ?_
      refine q_conv (fun w S => S.tail) ?_
      refine q_conv (fun w S => S.tail) ?_
      refine q_conv (fun w S => S.tail) ?_
      exact f_ret (r_one rfl rfl) (⟨rfl, rfl⟩) (fun w S => S)
   · -- 5 comes first
    refine l_conv (L' := blk m45 (.cells #[.int .i64 tl.n, .slice a_3 (tl.xs).length c_3] 54 (0, 0)) :: row e_Row.T e_Row.sz a_3 (tl.xs).length c_3 (flat e_Row tl.xs) :: vals tl.xs :: StR k17 sl :: F) (fun w S => S.perm List.perm_append_comm) ?_
    refine o_load1 rfl rfl Try.underlying43 rfl (rd_mem 0 rfl rfl) ?_
    refine l_nil ?_
    refine q_conv (L' := (StR k17 sl :: F) ++ [blk m45 (.cells #[.int .i64 tl.n, .slice a_3 (tl.xs).length c_3] 54 (0, 0)), row e_Row.T e_Row.sz a_3 (tl.xs).length c_3 (flat e_Row tl.xs), vals tl.xs]) (fun w S => S.perm (List.perm_append_comm (l₁ := [blk m45 (.cells #[.int .i64 tl.n, .slice a_3 (tl.xs).length c_3] 54 (0, 0)), row e_Row.T e_Row.sz a_3 (tl.xs).length c_3 (flat e_Row tl.xs), vals tl.xs]) (l₂ := StR k17 sl :: F))) ?_
    refine h_next ?_
    refine h_one 1 rfl (by kernel_rfl) ?_
    refine l_conv (L' := blk m45 (.cells #[.int .i64 tl.n, .slice a_3 (tl.xs).length c_3] 54 (0, 0)) :: row e_Row.T e_Row.sz a_3 (tl.xs).length c_3 (flat e_Row tl.xs) :: vals tl.xs :: StR k17 sl :: F) (fun w S => S.perm List.perm_append_comm) ?_
    refine l_f3 ?_
    refine o_call rfl cal22 rfl (rows6_ (by have h8 := hsc.len; omega)) ?_
    rintro _ _ ⟨ys95, a95, c95, hys95, rfl, rfl⟩
    refine l_nil ?_
    refine q_conv (fun w S => S.perm p2) ?_
    refine q_conv (fun w S => S.perm p5) ?_
    refine q_conv (fun w S => S.perm p5) ?_
    refine q_conv (fun w S => S.perm p5) ?_
    refine q_conv (fun w S => S.perm p5) ?_
    refine q_conv (fun w S => S.perm p5) ?_
    refine q_conv (L' := (StR k17 sl :: F) ++ [row e_Row.T e_Row.sz a95 (ys95).length c95 (flat e_Row ys95), vals ys95, blk m45 (.cells #[.int .i64 tl.n, .slice a_3 (tl.xs).length c_3] 54 (0, 0)), row e_Row.T e_Row.sz a_3 (tl.xs).length c_3 (flat e_Row tl.xs), vals tl.xs]) (fun w S => S.perm (List.perm_append_comm (l₁ := [row e_Row.T e_Row.sz a95 (ys95).length c95 (flat e_Row ys95), vals ys95, blk m45 (.cells #[.int .i64 tl.n, .slice a_3 (tl.xs).length c_3] 54 (0, 0)), row e_Row.T e_Row.sz a_3 (tl.xs).length c_3 (flat e_Row tl.xs), vals tl.xs]) (l₂ := StR k17 sl :: F))) ?_
    refine h_next ?_
    refine h_one 6 rfl (by kernel_rfl) ?_
    refine l_conv (L' := row e_Row.T e_Row.sz a95 (ys95).length c95 (flat e_Row ys95) :: vals ys95 :: blk m45 (.cells #[.int .i64 tl.n, .slice a_3 (tl.xs).length c_3] 54 (0, 0)) :: row e_Row.T e_Row.sz a_3 (tl.xs).length c_3 (flat e_Row tl.xs) :: vals tl.xs :: StR k17 sl :: F) (fun w S => S.perm List.perm_append_comm) ?_
    refine o_call rfl cal20 rfl (same_ (xs := ys95) (ys := tl.xs) (c := c95) (c2 := c_3) (rds_own e_Row_ok 0 rfl) (rds_own e_Row_ok 3 rfl) (fun x hx => rds_vals 1 rfl hx) (fun x hx => rds_vals 4 rfl hx) (by have h9 := rows_len hys95; rw [M_len] at h9; have h8 := hsc.len; omega)) ?_
    rintro _ _ ⟨bb100, hbb100, rfl, rfl⟩
    refine l_nil ?_
    refine q_conv (L' := (StR k17 sl :: F) ++ [row e_Row.T e_Row.sz a95 (ys95).length c95 (flat e_Row ys95), vals ys95, blk m45 (.cells #[.int .i64 tl.n, .slice a_3 (tl.xs).length c_3] 54 (0, 0)), row e_Row.T e_Row.sz a_3 (tl.xs).length c_3 (flat e_Row tl.xs), vals tl.xs]) (fun w S => S.perm (List.perm_append_comm (l₁ := [row e_Row.T e_Row.sz a95 (ys95).length c95 (flat e_Row ys95), vals ys95, blk m45 (.cells #[.int .i64 tl.n, .slice a_3 (tl.xs).length c_3] 54 (0, 0)), row e_Row.T e_Row.sz a_3 (tl.xs).length c_3 (flat e_Row tl.xs), vals tl.xs]) (l₂ := StR k17 sl :: F))) ?_
    refine h_next ?_
    have hb100 : bb100 = true := hbb100.2 (by rw [hys95, hsc.M]; rfl)
    refine h_eq (t := 100) (v' := .bool true) rfl (by rw [hb100]) ?_
    refine h_take 7 rfl rfl (by kernel_rfl) (by kernel_rfl) (by kernel_rfl) (fun L0 => v_move rfl rfl) ?_
    refine h_take_yes 8 rfl rfl rfl rfl rfl (by kernel_rfl) (by kernel_rfl) (by kernel_rfl) (fun L0 => v_move rfl rfl) ?_
    refine h_take_yes 11 rfl rfl rfl rfl rfl (by kernel_rfl) (by kernel_rfl) (by kernel_rfl) (fun L0 => v_move rfl rfl) ?_
    refine h_one 9 rfl (by kernel_rfl) ?_
    refine l_conv (L' := row e_Row.T e_Row.sz a95 (ys95).length c95 (flat e_Row ys95) :: vals ys95 :: blk m45 (.cells #[.int .i64 tl.n, .slice a_3 (tl.xs).length c_3] 54 (0, 0)) :: row e_Row.T e_Row.sz a_3 (tl.xs).length c_3 (flat e_Row tl.xs) :: vals tl.xs :: StR k17 sl :: F) (fun w S => S.perm List.perm_append_comm) ?_
    refine o_yes rfl rfl rfl ?_
    refine l_f5 ?_
    refine o_call rfl cal25 rfl (snap_ ⟨hok, fun z hz => Nat.le_trans (hsc.key z hz) (by decide), by have h8 := hsc.len; omega⟩) ?_
    rintro _ _ ⟨a103, c103, rfl, rfl⟩
    refine l_nil ?_
    refine q_conv (fun w S => S.perm p1) ?_
    refine q_conv (fun w S => S.perm p6) ?_
    refine q_conv (fun w S => S.perm p6) ?_
    refine q_conv (fun w S => S.perm p6) ?_
    refine q_conv (fun w S => S.perm p6) ?_
    refine q_conv (fun w S => S.perm p6) ?_
    refine q_conv (fun w S => S.perm p6) ?_
    refine q_conv (L' := (StR k17 sl :: F) ++ [row e8.T e8.sz a103 ((snapB sl.n sl.M)).length c103 (flat e8 (snapB sl.n sl.M)), row e_Row.T e_Row.sz a95 (ys95).length c95 (flat e_Row ys95), vals ys95, blk m45 (.cells #[.int .i64 tl.n, .slice a_3 (tl.xs).length c_3] 54 (0, 0)), row e_Row.T e_Row.sz a_3 (tl.xs).length c_3 (flat e_Row tl.xs), vals tl.xs]) (fun w S => S.perm (List.perm_append_comm (l₁ := [row e8.T e8.sz a103 ((snapB sl.n sl.M)).length c103 (flat e8 (snapB sl.n sl.M)), row e_Row.T e_Row.sz a95 (ys95).length c95 (flat e_Row ys95), vals ys95, blk m45 (.cells #[.int .i64 tl.n, .slice a_3 (tl.xs).length c_3] 54 (0, 0)), row e_Row.T e_Row.sz a_3 (tl.xs).length c_3 (flat e_Row tl.xs), vals tl.xs]) (l₂ := StR k17 sl :: F))) ?_
    refine h_next ?_
    refine h_many (is := [10, 12]) (by kernel_rfl) (by decide) (forall_cons ⟨_, rfl, ?_⟩ (forall_cons ⟨_, rfl, ?_⟩ forall_nil))
    · -- 10 comes first
     refine l_conv (L' := row e8.T e8.sz a103 ((snapB sl.n sl.M)).length c103 (flat e8 (snapB sl.n sl.M)) :: row e_Row.T e_Row.sz a95 (ys95).length c95 (flat e_Row ys95) :: vals ys95 :: blk m45 (.cells #[.int .i64 tl.n, .slice a_3 (tl.xs).length c_3] 54 (0, 0)) :: row e_Row.T e_Row.sz a_3 (tl.xs).length c_3 (flat e_Row tl.xs) :: vals tl.xs :: StR k17 sl :: F) (fun w S => S.perm List.perm_append_comm) ?_
     refine o_yes rfl rfl rfl ?_
     refine o_bytesStr (e := e8) rfl rfl rfl Try.underlying23 Try.underlying5 Try.underlying9 (rds_own e8_ok 0 rfl) ?_
     refine l_nil ?_
     refine q_conv (L' := (StR k17 sl :: F) ++ [row e8.T e8.sz a103 ((snapB sl.n sl.M)).length c103 (flat e8 (snapB sl.n sl.M)), row e_Row.T e_Row.sz a95 (ys95).length c95 (flat e_Row ys95), vals ys95, blk m45 (.cells #[.int .i64 tl.n, .slice a_3 (tl.xs).length c_3] 54 (0, 0)), row e_Row.T e_Row.sz a_3 (tl.xs).length c_3 (flat e_Row tl.xs), vals tl.xs]) (fun w S => S.perm (List.perm_append_comm (l₁ := [row e8.T e8.sz a103 ((snapB sl.n sl.M)).length c103 (flat e8 (snapB sl.n sl.M)), row e_Row.T e_Row.sz a95 (ys95).length c95 (flat e_Row ys95), vals ys95, blk m45 (.cells #[.int .i64 tl.n, .slice a_3 (tl.xs).length c_3] 54 (0, 0)), row e_Row.T e_Row.sz a_3 (tl.xs).length c_3 (flat e_Row tl.xs), vals tl.xs]) (l₂ := StR k17 sl :: F))) ?_
     refine h_next ?_
     refine h_one 12 rfl (by kernel_rfl) ?_
     refine l_conv (L' := row e8.T e8.sz a103 ((snapB sl.n sl.M)).length c103 (flat e8 (snapB sl.n sl.M)) :: row e_Row.T e_Row.sz a95 (ys95).length c95 (flat e_Row ys95) :: vals ys95 :: blk m45 (.cells #[.int .i64 tl.n, .slice a_3 (tl.xs).length c_3] 54 (0, 0)) :: row e_Row.T e_Row.sz a_3 (tl.xs).length c_3 (flat e_Row tl.xs) :: vals tl.xs :: StR k17 sl :: F) (fun w S => S.perm List.perm_append_comm) ?_
     refine o_yes rfl rfl rfl ?_
     refine l_conv (fun w S => S.perm p6) ?_
     refine l_conv (fun w S => S.perm p3) ?_
     refine l_conv (fun w S => S.perm p3) ?_
     refine l_conv (fun w S => S.perm p3) ?_
     refine l_conv (fun w S => S.perm p6) ?_
     refine l_conv (fun w S => S.perm p6) ?_
     refine l_conv (fun w S => S.perm p6) ?_
     refine l_conv (L' := RfR m45 tl :: _) (fun w S => Sat.obj_mk ⟨a_3, c_3⟩ ok_3 S) ?_
     refine o_call rfl cal26 rfl (rsnap_ ⟨hokr.1, fun z hz => by rw [← hsc.M] at hz; exact Nat.le_trans (hsc.key z hz) (by decide), by have h9 := rows_len hsc.M; rw [M_len] at h9; have h8 := hsc.len; omega⟩) ?_
     rintro _ _ ⟨a106, c106, rfl, rfl⟩
     refine l_nil ?_
     refine q_conv (L' := (StR k17 sl :: F) ++ [row e8.T e8.sz a106 ((snapB tl.n tl.M)).length c106 (flat e8 (snapB tl.n tl.M)), RfR m45 tl, row e8.T e8.sz a103 ((snapB sl.n sl.M)).length c103 (flat e8 (snapB sl.n sl.M)), row e_Row.T e_Row.sz a95 (ys95).length c95 (flat e_Row ys95), vals ys95]) (fun w S => S.perm (List.perm_append_comm (l₁ := [row e8.T e8.sz a106 ((snapB tl.n tl.M)).length c106 (flat e8 (snapB tl.n tl.M)), RfR m45 tl, row e8.T e8.sz a103 ((snapB sl.n sl.M)).length c103 (flat e8 (snapB sl.n sl.M)), row e_Row.T e_Row.sz a95 (ys95).length c95 (flat e_Row ys95), vals ys95]) (l₂ := StR k17 sl :: F))) ?_
     refine h_next ?_
     refine h_one 13 rfl (by kernel_rfl) ?_
     refine l_conv (L' := row e8.T e8.sz a106 ((snapB tl.n tl.M)).length c106 (flat e8 (snapB tl.n tl.M)) :: RfR m45 tl :: row e8.T e8.sz a103 ((snapB sl.n sl.M)).length c103 (flat e8 (snapB sl.n sl.M)) :: row e_Row.T e_Row.sz a95 (ys95).length c95 (flat e_Row ys95) :: vals ys95 :: StR k17 sl :: F) (fun w S => S.perm List.perm_append_comm) ?_
     refine o_yes rfl rfl rfl ?_
     refine o_bytesStr (e := e8) rfl rfl rfl Try.underlying23 Try.underlying5 Try.underlying9 (rds_own e8_ok 0 rfl) ?_
     refine l_nil ?_
     refine q_conv (L' := (StR k17 sl :: F) ++ [row e8.T e8.sz a106 ((snapB tl.n tl.M)).length c106 (flat e8 (snapB tl.n tl.M)), RfR m45 tl, row e8.T e8.sz a103 ((snapB sl.n sl.M)).length c103 (flat e8 (snapB sl.n sl.M)), row e_Row.T e_Row.sz a95 (ys95).length c95 (flat e_Row ys95), vals ys95]) (fun w S => S.perm (List.perm_append_comm (l₁ := [row e8.T e8.sz a106 ((snapB tl.n tl.M)).length c106 (flat e8 (snapB tl.n tl.M)), RfR m45 tl, row e8.T e8.sz a103 ((snapB sl.n sl.M)).length c103 (flat e8 (snapB sl.n sl.M)), row e_Row.T e_Row.sz a95 (ys95).length c95 (flat e_Row ys95), vals ys95]) (l₂ := StR k17 sl :: F))) ?_
     refine h_next ?_
     refine h_take_yes 14 rfl rfl rfl rfl rfl (by kernel_rfl) (by kernel_rfl) (by kernel_rfl) (fun L0 => v_bin rfl rfl rfl b_seql) ?_
     refine h_eq (t := 108) (v' := .bool true) rfl (show _ = Value.bool true from by rw [decide_eq_true (by rw [hsc.n1, hsc.n2, hsc.M])]) ?_
     refine h_take 15 rfl rfl (by kernel_rfl) (by kernel_rfl) (by kernel_rfl) (fun L0 => v_pick_true rfl rfl rfl) ?_
     refine h_take 16 rfl rfl (by kernel_rfl) (by kernel_rfl) (by kernel_rfl) (fun L0 => v_assign rfl rfl) ?_
     refine h_done (by kernel_rfl) ?_
     refine q_conv (L' := row e8.T e8.sz a106 ((snapB tl.n tl.M)).length c106 (flat e8 (snapB tl.n tl.M)) :: RfR m45 tl :: row e8.T e8.sz a103 ((snapB sl.n sl.M)).length c103 (flat e8 (snapB sl.n sl.M)) :: row e_Row.T e_Row.sz a95 (ys95).length c95 (flat e_Row ys95) :: vals ys95 :: StR k17 sl :: F) (fun w S => S.perm List.perm_append_comm) ?_
     refine q_then ?_
     refine c_ret ?_
     refine q_conv (fun w S => S.tail) ?_
     refine q_conv (fun w S => S.tail) ?_
     refine q_conv (fun w S => S.tail) ?_
     refine q_conv (fun w S => S.tail) ?_
     refine q_conv (fun w S => S.tail) ?_
     refine q_conv (fun w S => S.tail) ?_
     exact f_ret (r_one rfl rfl) (⟨rfl, rfl⟩) (fun w S => S)
    · -- 12 comes first
     refine l_conv (L' := row e8.T e8.sz a103 ((snapB sl.n sl.M)).length c103 (flat e8 (snapB sl.n sl.M)) :: row e_Row.T e_Row.sz a95 (ys95).length c95 (flat e_Row ys95) :: vals ys95 :: blk m45 (.cells #[.int .i64 tl.n, .slice a_3 (tl.xs).length c_3] 54 (0, 0)) :: row e_Row.T e_Row.sz a_3 (tl.xs).length c_3 (flat e_Row tl.xs) :: vals tl.xs :: StR k17 sl :: F) (fun w S => S.perm List.perm_append_comm) ?_
     refine o_yes rfl rfl rfl ?_
     refine l_conv (fun w S => S.perm p6) ?_
     refine l_conv (fun w S => S.perm p3) ?_
     refine l_conv (fun w S => S.perm p3) ?_
     refine l_conv (fun w S => S.perm p3) ?_
     refine l_conv (fun w S => S.perm p6) ?_
     refine l_conv (fun w S => S.perm p6) ?_
     refine l_conv (fun w S => S.perm p6) ?_
     refine l_conv (L' := RfR m45 tl :: _) (fun w S => Sat.obj_mk ⟨a_3, c_3⟩ ok_3 S) ?_
     refine o_call rfl cal26 rfl (rsnap_ ⟨hokr.1, fun z hz => by rw [← hsc.M] at hz; exact Nat.le_trans (hsc.key z hz) (by decide), by have h9 := rows_len hsc.M; rw [M_len] at h9; have h8 := hsc.len; omega⟩) ?_
     rintro _ _ ⟨a106, c106, rfl, rfl⟩
     refine l_nil ?_
     refine q_conv (L' := (StR k17 sl :: F) ++ [row e8.T e8.sz a106 ((snapB tl.n tl.M)).length c106 (flat e8 (snapB tl.n tl.M)), RfR m45 tl, row e8.T e8.sz a103 ((snapB sl.n sl.M)).length c103 (flat e8 (snapB sl.n sl.M)), row e_Row.T e_Row.sz a95 (ys95).length c95 (flat e_Row ys95), vals ys95]) (fun w S => S.perm (List.perm_append_comm (l₁ := [row e8.T e8.sz a106 ((snapB tl.n tl.M)).length c106 (flat e8 (snapB tl.n tl.M)), RfR m45 tl, row e8.T e8.sz a103 ((snapB sl.n sl.M)).length c103 (flat e8 (snapB sl.n sl.M)), row e_Row.T e_Row.sz a95 (ys95).length c95 (flat e_Row ys95), vals ys95]) (l₂ := StR k17 sl :: F))) ?_
     refine h_next ?_
     refine h_many (is := [10, 13]) (by kernel_rfl) (by decide) (forall_cons ⟨_, rfl, ?_⟩ (forall_cons ⟨_, rfl, ?_⟩ forall_nil))
     · -- 10 comes first
      refine l_conv (L' := row e8.T e8.sz a106 ((snapB tl.n tl.M)).length c106 (flat e8 (snapB tl.n tl.M)) :: RfR m45 tl :: row e8.T e8.sz a103 ((snapB sl.n sl.M)).length c103 (flat e8 (snapB sl.n sl.M)) :: row e_Row.T e_Row.sz a95 (ys95).length c95 (flat e_Row ys95) :: vals ys95 :: StR k17 sl :: F) (fun w S => S.perm List.perm_append_comm) ?_
      refine o_yes rfl rfl rfl ?_
      refine o_bytesStr (e := e8) rfl rfl rfl Try.underlying23 Try.underlying5 Try.underlying9 (rds_own e8_ok 2 rfl) ?_
      refine l_nil ?_
      refine q_conv (L' := (StR k17 sl :: F) ++ [row e8.T e8.sz a106 ((snapB tl.n tl.M)).length c106 (flat e8 (snapB tl.n tl.M)), RfR m45 tl, row e8.T e8.sz a103 ((snapB sl.n sl.M)).length c103 (flat e8 (snapB sl.n sl.M)), row e_Row.T e_Row.sz a95 (ys95).length c95 (flat e_Row ys95), vals ys95]) (fun w S => S.perm (List.perm_append_comm (l₁ := [row e8.T e8.sz a106 ((snapB tl.n tl.M)).length c106 (flat e8 (snapB tl.n tl.M)), RfR m45 tl, row e8.T e8.sz a103 ((snapB sl.n sl.M)).length c103 (flat e8 (snapB sl.n sl.M)), row e_Row.T e_Row.sz a95 (ys95).length c95 (flat e_Row ys95), vals ys95]) (l₂ := StR k17 sl :: F))) ?_
      refine h_next ?_
      refine h_one 13 rfl (by kernel_rfl) ?_
      refine l_conv (L' := row e8.T e8.sz a106 ((snapB tl.n tl.M)).length c106 (flat e8 (snapB tl.n tl.M)) :: RfR m45 tl :: row e8.T e8.sz a103 ((snapB sl.n sl.M)).length c103 (flat e8 (snapB sl.n sl.M)) :: row e_Row.T e_Row.sz a95 (ys95).length c95 (flat e_Row ys95) :: vals ys95 :: StR k17 sl :: F) (fun w S => S.perm List.perm_append_comm) ?_
      refine o_yes rfl rfl rfl ?_
      refine o_bytesStr (e := e8) rfl rfl rfl Try.underlying23 Try.underlying5 Try.underlying9 (rds_own e8_ok 0 rfl) ?_
      refine l_nil ?_
      refine q_conv (L' := (StR k17 sl :: F) ++ [row e8.T e8.sz a106 ((snapB tl.n tl.M)).length c106 (flat e8 (snapB tl.n tl.M)), RfR m45 tl, row e8.T e8.sz a103 ((snapB sl.n sl.M)).length c103 (flat e8 (snapB sl.n sl.M)), row e_Row.T e_Row.sz a95 (ys95).length c95 (flat e_Row ys95), vals ys95]) (fun w S => S.perm (List.perm_append_comm (l₁ := [row e8.T e8.sz a106 ((snapB tl.n tl.M)).length c106 (flat e8 (snapB tl.n tl.M)), RfR m45 tl, row e8.T e8.sz a103 ((snapB sl.n sl.M)).length c103 (flat e8 (snapB sl.n sl.M)), row e_Row.T e_Row.sz a95 (ys95).length c95 (flat e_Row ys95), vals ys95]) (l₂ := StR k17 sl :: F))) ?_
      refine h_next ?_
      refine h_take_yes 14 rfl rfl rfl rfl rfl (by kernel_rfl) (by kernel_rfl) (by kernel_rfl) (fun L0 => v_bin rfl rfl rfl b_seql) ?_
      refine h_eq (t := 108) (v' := .bool true) rfl (show _ = Value.bool true from by rw [decide_eq_true (by rw [hsc.n1, hsc.n2, hsc.M])]) ?_
      refine h_take 15 rfl rfl (by kernel_rfl) (by kernel_rfl) (by kernel_rfl) (fun L0 => v_pick_true rfl rfl rfl) ?_
      refine h_take 16 rfl rfl (by kernel_rfl) (by kernel_rfl) (by kernel_rfl) (fun L0 => v_assign rfl rfl) ?_
      refine h_done (by kernel_rfl) ?_
      refine q_conv (L' := row e8.T e8.sz a106 ((snapB tl.n tl.M)).length c106 (flat e8 (snapB tl.n tl.M)) :: RfR m45 tl :: row e8.T e8.sz a103 ((snapB sl.n sl.M)).length c103 (flat e8 (snapB sl.n sl.M)) :: row e_Row.T e_Row.sz a95 (ys95).length c95 (flat e_Row ys95) :: vals ys95 :: StR k17 sl :: F) (fun w S => S.perm List.perm_append_comm) ?_
      refine q_then ?_
      refine c_ret ?_
      refine q_conv (fun w S => S.tail) ?_
      refine q_conv (fun w S => S.tail) ?_
      refine q_conv (fun w S => S.tail) ?_
      refine q_conv (fun w S => S.tail) ?_
      refine q_conv (fun w S => S.tail) ?_
      refine q_conv (fun w S => S.tail) ?_
      exact f_ret (r_one rfl rfl) (⟨rfl, rfl⟩) (fun w S => S)
     · -- 13 comes first
      refine l_conv (L' := row e8.T e8.sz a106 ((snapB tl.n tl.M)).length c106 (flat e8 (snapB tl.n tl.M)) :: RfR m45 tl :: row e8.T e8.sz a103 ((snapB sl.n sl.M)).length c103 (flat e8 (snapB sl.n sl.M)) :: row e_Row.T e_Row.sz a95 (ys95).length c95 (flat e_Row ys95) :: vals ys95 :: StR k17 sl :: F) (fun w S => S.perm List.perm_append_comm) ?_
      refine o_yes rfl rfl rfl ?_
      refine o_bytesStr (e := e8) rfl rfl rfl Try.underlying23 Try.underlying5 Try.underlying9 (rds_own e8_ok 0 rfl) ?_
      refine l_nil ?_
      refine q_conv (L' := (StR k17 sl :: F) ++ [row e8.T e8.sz a106 ((snapB tl.n tl.M)).length c106 (flat e8 (snapB tl.n tl.M)), RfR m45 tl, row e8.T e8.sz a103 ((snapB sl.n sl.M)).length c103 (flat e8 (snapB sl.n sl.M)), row e_Row.T e_Row.sz a95 (ys95).length c95 (flat e_Row ys95), vals ys95]) (fun w S => S.perm (List.perm_append_comm (l₁ := [row e8.T e8.sz a106 ((snapB tl.n tl.M)).length c106 (flat e8 (snapB tl.n tl.M)), RfR m45 tl, row e8.T e8.sz a103 ((snapB sl.n sl.M)).length c103 (flat e8 (snapB sl.n sl.M)), row e_Row.T e_Row.sz a95 (ys95).length c95 (flat e_Row ys95), vals ys95]) (l₂ := StR k17 sl :: F))) ?_
      refine h_next ?_
      refine h_one 10 rfl (by kernel_rfl) ?_
      refine l_conv (L' := row e8.T e8.sz a106 ((snapB tl.n tl.M)).length c106 (flat e8 (snapB tl.n tl.M)) :: RfR m45 tl :: row e8.T e8.sz a103 ((snapB sl.n sl.M)).length c103 (flat e8 (snapB sl.n sl.M)) :: row e_Row.T e_Row.sz a95 (ys95).length c95 (flat e_Row ys95) :: vals ys95 :: StR k17 sl :: F) (fun w S => S.perm List.perm_append_comm) ?_
      refine o_yes rfl rfl rfl ?_
      refine o_bytesStr (e := e8) rfl rfl rfl Try.underlying23 Try.underlying5 Try.underlying9 (rds_own e8_ok 2 rfl) ?_
      refine l_nil ?_
      refine q_conv (L' := (StR k17 sl :: F) ++ [row e8.T e8.sz a106 ((snapB tl.n tl.M)).length c106 (flat e8 (snapB tl.n tl.M)), RfR m45 tl, row e8.T e8.sz a103 ((snapB sl.n sl.M)).length c103 (flat e8 (snapB sl.n sl.M)), row e_Row.T e_Row.sz a95 (ys95).length c95 (flat e_Row ys95), vals ys95]) (fun w S => S.perm (List.perm_append_comm (l₁ := [row e8.T e8.sz a106 ((snapB tl.n tl.M)).length c106 (flat e8 (snapB tl.n tl.M)), RfR m45 tl, row e8.T e8.sz a103 ((snapB sl.n sl.M)).length c103 (flat e8 (snapB sl.n sl.M)), row e_Row.T e_Row.sz a95 (ys95).length c95 (flat e_Row ys95), vals ys95]) (l₂ := StR k17 sl :: F))) ?_
      refine h_next ?_
      refine h_take_yes 14 rfl rfl rfl rfl rfl (by kernel_rfl) (by kernel_rfl) (by kernel_rfl) (fun L0 => v_bin rfl rfl rfl b_seql) ?_
      refine h_eq (t := 108) (v' := .bool true) rfl (show _ = Value.bool true from by rw [decide_eq_true (by rw [hsc.n1, hsc.n2, hsc.M])]) ?_
      refine h_take 15 rfl rfl (by kernel_rfl) (by kernel_rfl) (by kernel_rfl) (fun L0 => v_pick_true rfl rfl rfl) ?_
      refine h_take 16 rfl rfl (by kernel_rfl) (by kernel_rfl) (by kernel_rfl) (fun L0 => v_assign rfl rfl) ?_
      refine h_done (by kernel_rfl) ?_
      refine q_conv (L' := row e8.T e8.sz a106 ((snapB tl.n tl.M)).length c106 (flat e8 (snapB tl.n tl.M)) :: RfR m45 tl :: row e8.T e8.sz a103 ((snapB sl.n sl.M)).length c103 (flat e8 (snapB sl.n sl.M)) :: row e_Row.T e_Row.sz a95 (ys95).length c95 (flat e_Row ys95) :: vals ys95 :: StR k17 sl :: F) (fun w S => S.perm List.perm_append_comm) ?_
      refine q_then ?_
      refine c_ret ?_
      refine q_conv (fun w S => S.tail) ?_
      refine q_conv (fun w S => S.tail) ?_
      refine q_conv (fun w S => S.tail) ?_
      refine q_conv (fun w S => S.tail) ?_
      refine q_conv (fun w S => S.tail) ?_
      refine q_conv (fun w S => S.tail) ?_
      exact f_ret (r_one rfl rfl) (⟨rfl, rfl⟩) (fun w S => S)
set_option maxHeartbeats 1000000 in
theorem plays_lo {W : World} {F : List Res} {os : List Op} {a : Option Addr} {c : Nat} (hs : SlR W e_Op a os) (hv : ∀ o ∈ os, SlR W e8 o.f_Value.a o.f_Value.xs) {n : Int} (h1n : n < 1) : CS Try.prog 6 #[.int .i64 n, .slice a (os).length c] W (F) (fun r L' => r = .bool true ∧ F = L') := by
 refine f_door (l0 := [(0, .int .i64 n), (1, .slice a (os).length c)]) Try.func6 Try.ntmps6 rfl rfl rfl ?_
 refine c_seq ?_
 refine c_region ?_
 refine o_assign rfl rfl ?_
 refine l_nil ?_
 refine q_then ?_
 refine c_seq ?_
 refine c_seq ?_
 refine c_region ?_
 refine o_call rfl cal8 rfl (speaks_) ?_
 rintro _ _ ⟨rfl, rfl⟩
 refine o_not rfl rfl ?_
 refine l_nil ?_
 refine q_then ?_
 refine c_false rfl ?_
 refine c_skip ?_
 refine q_then ?_
 refine c_seq ?_
 refine c_seq ?_
 refine c_region ?_
 refine o_move rfl rfl ?_
 refine o_call rfl cal9 rfl (great_ (os := os) (c := c) hs hv) ?_
 rintro _ _ ⟨g14, hgd14, rfl, rfl⟩
 refine l_nil ?_
 refine q_then ?_
 refine c_cond rfl (fun h1 => ?_) (fun h1 => ?_)
 · -- h1T
  have h1b := h1
  try simp only [decide_eq_true_eq, decide_eq_false_iff_not, Bool.not_eq_eq_eq_not, Bool.not_true, Bool.not_false, Bool.not_eq_true', Bool.not_eq_false', Int.not_lt, Int.not_le, Bool.or_eq_true, Bool.and_eq_true] at h1
  refine c_seq ?_
  refine c_region ?_
  refine o_assign rfl rfl ?_
  refine l_nil ?_
  refine q_then ?_
  refine c_ret ?_
  refine q_pass_ret ?_
  exact f_ret (r_one rfl rfl) (⟨rfl, rfl⟩) (fun w S => S)
 · -- h1F
  have h1b := h1
  try simp only [decide_eq_true_eq, decide_eq_false_iff_not, Bool.not_eq_eq_eq_not, Bool.not_true, Bool.not_false, Bool.not_eq_true', Bool.not_eq_false', Int.not_lt, Int.not_le, Bool.or_eq_true, Bool.and_eq_true] at h1
  refine c_skip ?_
  refine q_then ?_
  refine c_seq ?_
  refine c_region ?_
  refine o_move rfl rfl ?_
  refine o_call rfl cal10 rfl (newlo_ h1n) ?_
  rintro _ _ ⟨rfl, rfl⟩
  refine o_move rfl rfl ?_
  refine o_extract rfl rfl rfl ?_
  refine o_extract rfl rfl rfl ?_
  refine o_assign rfl rfl ?_
  refine o_assign rfl rfl ?_
  refine l_nil ?_
  refine q_then ?_
  refine c_seq ?_
  refine c_seq ?_
  refine c_region ?_
  refine o_move rfl rfl ?_
  refine o_bin rfl rfl rfl b_lss ?_
  refine l_eq (t := 21) (v' := .bool true) rfl (show _ = Value.bool true from by rw [decide_eq_true (by omega)]) ?_
  refine o_move rfl rfl ?_
  refine o_no rfl rfl rfl rfl ?_
  refine o_no rfl rfl rfl rfl ?_
  refine o_pick_true rfl rfl rfl ?_
  refine o_move rfl rfl ?_
  refine o_no rfl rfl rfl rfl ?_
  refine o_no rfl rfl rfl rfl ?_
  refine o_pick_true rfl rfl rfl ?_
  refine l_nil ?_
  refine q_then ?_
  refine c_true rfl ?_
  refine c_seq ?_
  refine c_region ?_
  refine o_move rfl rfl ?_
  refine o_bin rfl rfl rfl (b_peq Try.underlying26 _) ?_
  refine o_move rfl rfl ?_
  refine o_yes rfl rfl rfl ?_
  refine o_move rfl rfl ?_
  refine o_yes rfl rfl rfl ?_
  refine o_bin rfl rfl rfl b_eql ?_
  refine o_pick_true rfl rfl rfl ?_
  refine o_move rfl rfl ?_
  refine o_yes rfl rfl rfl ?_
  refine o_move rfl rfl ?_
  refine o_yes rfl rfl rfl ?_
  refine o_bin rfl rfl rfl b_lss ?_
  refine l_eq (t := 38) (v' := .bool true) rfl (show _ = Value.bool true from by rw [decide_eq_true (by omega)]) ?_
  refine o_yes rfl rfl rfl ?_
  refine o_move rfl rfl ?_
  refine o_no rfl rfl rfl rfl ?_
  refine o_no rfl rfl rfl rfl ?_
  refine o_yes rfl rfl rfl ?_
  refine o_pick_true rfl rfl rfl ?_
  refine o_pick_true rfl rfl rfl ?_
  refine o_assign rfl rfl ?_
  refine l_nil ?_
  refine q_then ?_
  refine c_ret ?_
  refine q_pass_ret ?_
  exact f_ret (r_one rfl rfl) (⟨rfl, rfl⟩) (fun w S => S)
set_option maxHeartbeats 1000000 in
theorem plays_hi {W : World} {F : List Res} {os : List Op} {a : Option Addr} {c : Nat} (hs : SlR W e_Op a os) (hv : ∀ o ∈ os, SlR W e8 o.f_Value.a o.f_Value.xs) {n : Int} (h1n : 3 < n) : CS Try.prog 6 #[.int .i64 n, .slice a (os).length c] W (F) (fun r L' => r = .bool true ∧ F = L') := by
 refine f_door (l0 := [(0, .int .i64 n), (1, .slice a (os).length c)]) Try.func6 Try.ntmps6 rfl rfl rfl ?_
 refine c_seq ?_
 refine c_region ?_
 refine o_assign rfl rfl ?_
 refine l_nil ?_
 refine q_then ?_
 refine c_seq ?_
 refine c_seq ?_
 refine c_region ?_
 refine o_call rfl cal8 rfl (speaks_) ?_
 rintro _ _ ⟨rfl, rfl⟩
 refine o_not rfl rfl ?_
 refine l_nil ?_
 refine q_then ?_
 refine c_false rfl ?_
 refine c_skip ?_
 refine q_then ?_
 refine c_seq ?_
 refine c_seq ?_
 refine c_region ?_
 refine o_move rfl rfl ?_
 refine o_call rfl cal9 rfl (great_ (os := os) (c := c) hs hv) ?_
 rintro _ _ ⟨g14, hgd14, rfl, rfl⟩
 refine l_nil ?_
 refine q_then ?_
 refine c_cond rfl (fun h1 => ?_) (fun h1 => ?_)
 · -- h1T
  have h1b := h1
  try simp only [decide_eq_true_eq, decide_eq_false_iff_not, Bool.not_eq_eq_eq_not, Bool.not_true, Bool.not_false, Bool.not_eq_true', Bool.not_eq_false', Int.not_lt, Int.not_le, Bool.or_eq_true, Bool.and_eq_true] at h1
  refine c_seq ?_
  refine c_region ?_
  refine o_assign rfl rfl ?_
  refine l_nil ?_
  refine q_then ?_
  refine c_ret ?_
  refine q_pass_ret ?_
  exact f_ret (r_one rfl rfl) (⟨rfl, rfl⟩) (fun w S => S)
 · -- h1F
  have h1b := h1
  try simp only [decide_eq_true_eq, decide_eq_false_iff_not, Bool.not_eq_eq_eq_not, Bool.not_true, Bool.not_false, Bool.not_eq_true', Bool.not_eq_false', Int.not_lt, Int.not_le, Bool.or_eq_true, Bool.and_eq_true] at h1
  refine c_skip ?_
  refine q_then ?_
  refine c_seq ?_
  refine c_region ?_
  refine o_move rfl rfl ?_
  refine o_call rfl cal10 rfl (newhi_ h1n) ?_
  rintro _ _ ⟨rfl, rfl⟩
  refine o_move rfl rfl ?_
  refine o_extract rfl rfl rfl ?_
  refine o_extract rfl rfl rfl ?_
  refine o_assign rfl rfl ?_
  refine o_assign rfl rfl ?_
  refine l_nil ?_
  refine q_then ?_
  refine c_seq ?_
  refine c_seq ?_
  refine c_region ?_
  refine o_move rfl rfl ?_
  refine o_bin rfl rfl rfl b_lss ?_
  refine l_eq (t := 21) (v' := .bool false) rfl (show _ = Value.bool false from by rw [decide_eq_false (by omega)]) ?_
  refine o_move rfl rfl ?_
  refine o_yes rfl rfl rfl ?_
  refine o_move rfl rfl ?_
  refine o_yes rfl rfl rfl ?_
  refine o_bin rfl rfl rfl b_gtr ?_
  refine l_eq (t := 24) (v' := .bool true) rfl (show _ = Value.bool true from by rw [decide_eq_true (by omega)]) ?_
  refine o_pick_false rfl rfl rfl ?_
  refine o_move rfl rfl ?_
  refine o_no rfl rfl rfl rfl ?_
  refine o_no rfl rfl rfl rfl ?_
  refine o_pick_true rfl rfl rfl ?_
  refine l_nil ?_
  refine q_then ?_
  refine c_true rfl ?_
  refine c_seq ?_
  refine c_region ?_
  refine o_move rfl rfl ?_
  refine o_bin rfl rfl rfl (b_peq Try.underlying26 _) ?_
  refine o_move rfl rfl ?_
  refine o_yes rfl rfl rfl ?_
  refine o_move rfl rfl ?_
  refine o_yes rfl rfl rfl ?_
  refine o_bin rfl rfl rfl b_eql ?_
  refine o_pick_true rfl rfl rfl ?_
  refine o_move rfl rfl ?_
  refine o_yes rfl rfl rfl ?_
  refine o_move rfl rfl ?_
  refine o_yes rfl rfl rfl ?_
  refine o_bin rfl rfl rfl b_lss ?_
  refine l_eq (t := 38) (v' := .bool false) rfl (show _ = Value.bool false from by rw [decide_eq_false (by omega)]) ?_
  refine o_yes rfl rfl rfl ?_
  refine o_move rfl rfl ?_
  refine o_yes rfl rfl rfl ?_
  refine o_move rfl rfl ?_
  refine o_yes rfl rfl rfl ?_
  refine o_bin rfl rfl rfl b_gtr ?_
  refine l_eq (t := 41) (v' := .bool true) rfl (show _ = Value.bool true from by rw [decide_eq_true (by omega)]) ?_
  refine o_yes rfl rfl rfl ?_
  refine o_pick_false rfl rfl rfl ?_
  refine o_pick_true rfl rfl rfl ?_
  refine o_assign rfl rfl ?_
  refine l_nil ?_
  refine q_then ?_
  refine c_ret ?_
  refine q_pass_ret ?_
  exact f_ret (r_one rfl rfl) (⟨rfl, rfl⟩) (fun w S => S)
theorem plays_law {W : World} {F : List Res} {os : List Op} {a : Option Addr} {c : Nat} (hs : SlR W e_Op a os) (hv : ∀ o ∈ os, SlR W e8 o.f_Value.a o.f_Value.xs) (hN : ∀ o ∈ os, o.f_N < 9223372036854775808) {n : Int} : CS Try.prog 6 #[.int .i64 n, .slice a os.length c] W F (fun r L' => r = .bool true ∧ F = L') := by
  by_cases h1 : n < 1
  · exact plays_lo hs hv h1
  · by_cases h3 : 3 < n
    · exact plays_hi hs hv h3
    · exact plays_mid hs hv hN (by omega) (by omega)
end
section
set_option linter.unusedVariables false
set_option linter.unusedSimpArgs false
set_option maxRecDepth 10000
open Go.RowKit
theorem list4 (cs : List Value) (h : cs.length = 4) : ∃ c0 c1 c2 c3, cs = [c0, c1, c2, c3] := by
  match cs, h with
  | [c0, c1, c2, c3], _ => exact ⟨c0, c1, c2, c3, rfl⟩
def G_Op (W : World) (x : Op) : Prop := (Lit.int .i64 x.f_Kind).wf = true ∧ (Lit.int .i64 x.f_N).wf = true ∧ x.f_Key.size ≤ maxLen ∧ SlGood W e8 (fun _ : UInt8 => True) x.f_Value
theorem opens_Op (W : World) : Opens Try.prog W 32 e_Op.cells (G_Op W) where
  op := fun enc fuel cs y h => by
    obtain ⟨ys0, n0, _, _, hl0, hlen0, hf0⟩ := DataW.trod_struct Try.underlying32 h
    rw [cellsOf_ti ti32] at hl0
    obtain ⟨c0, c1, c2, c3, rfl⟩ := list4 cs hl0
    obtain ⟨z1, hz1⟩ : ∃ z, DataW.trod enc Try.prog W 0 (fun _ => true) true n0 3 [c0] = some z := by
      have hq : DataW.trod enc Try.prog W 0 (fun _ => true) true n0 3 (List.take (Try.prog.cellsOf 3) (List.drop 0 [c0, c1, c2, c3])) = ys0[0]? := hf0 0 _ rfl
      rw [cellsOf_ti ti3] at hq
      obtain ⟨z, hz⟩ : ∃ z, ys0[0]? = some z := ⟨_, List.getElem?_eq_getElem (by rw [hlen0]; decide)⟩
      exact ⟨z, by simpa [hz] using hq⟩
    obtain ⟨x2, e2, g2⟩ := (opens_int (W := W) Try.underlying3).op enc _ _ _ hz1
    simp only [List.cons.injEq, and_true] at e2
    obtain ⟨z3, hz3⟩ : ∃ z, DataW.trod enc Try.prog W 0 (fun _ => true) true n0 3 [c1] = some z := by
      have hq : DataW.trod enc Try.prog W 0 (fun _ => true) true n0 3 (List.take (Try.prog.cellsOf 3) (List.drop 1 [c0, c1, c2, c3])) = ys0[1]? := hf0 1 _ rfl
      rw [cellsOf_ti ti3] at hq
      obtain ⟨z, hz⟩ : ∃ z, ys0[1]? = some z := ⟨_, List.getElem?_eq_getElem (by rw [hlen0]; decide)⟩
      exact ⟨z, by simpa [hz] using hq⟩
    obtain ⟨x4, e4, g4⟩ := (opens_int (W := W) Try.underlying3).op enc _ _ _ hz3
    simp only [List.cons.injEq, and_true] at e4
    obtain ⟨z5, hz5⟩ : ∃ z, DataW.trod enc Try.prog W 0 (fun _ => true) true n0 9 [c2] = some z := by
      have hq : DataW.trod enc Try.prog W 0 (fun _ => true) true n0 9 (List.take (Try.prog.cellsOf 9) (List.drop 2 [c0, c1, c2, c3])) = ys0[2]? := hf0 2 _ rfl
      rw [cellsOf_ti ti9] at hq
      obtain ⟨z, hz⟩ : ∃ z, ys0[2]? = some z := ⟨_, List.getElem?_eq_getElem (by rw [hlen0]; decide)⟩
      exact ⟨z, by simpa [hz] using hq⟩
    obtain ⟨x6, e6, g6⟩ := (opens_str (W := W) Try.underlying9).op enc _ _ _ hz5
    simp only [List.cons.injEq, and_true] at e6
    obtain ⟨z7, hz7⟩ : ∃ z, DataW.trod enc Try.prog W 0 (fun _ => true) true n0 23 [c3] = some z := by
      have hq : DataW.trod enc Try.prog W 0 (fun _ => true) true n0 23 (List.take (Try.prog.cellsOf 23) (List.drop 3 [c0, c1, c2, c3])) = ys0[3]? := hf0 3 _ rfl
      rw [cellsOf_ti ti23] at hq
      obtain ⟨z, hz⟩ : ∃ z, ys0[3]? = some z := ⟨_, List.getElem?_eq_getElem (by rw [hlen0]; decide)⟩
      exact ⟨z, by simpa [hz] using hq⟩
    obtain ⟨x8, e8, g8⟩ := (opens_slice (W := W) e8_ok Try.underlying23 (opens_u8 (W := W) Try.underlying5)).op enc _ _ _ hz7
    simp only [List.cons.injEq, and_true] at e8
    subst e2
    subst e4
    subst e6
    subst e8
    exact ⟨⟨x2, x4, x6, x8⟩, rfl, ⟨g2, g4, g6, g8⟩⟩
end
end Go.Proofs.Ytnfbjidpiglabaa
