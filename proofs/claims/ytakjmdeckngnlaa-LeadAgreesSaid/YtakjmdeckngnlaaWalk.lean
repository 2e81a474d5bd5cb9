/- Printed by eng2.py out of 12/spec2.py. -/
import Derived.Test.YtakjmdeckngnlaaSrch
set_option linter.unusedVariables false
set_option linter.unusedSimpArgs false
set_option maxRecDepth 10000
namespace Go.Proofs.Ytakjmdeckngnlaa
open Go.RowKit Classical
def WalkSpec_A (d : Nat) : Prop := ∀ {W : World} {G : List Res} {mn b : Nat} {xs : List ItA} {y : Value} {I : List ItA → List Res → Prop} {J : List Res → Prop} {full pre : List ItA} {L0 : List Res} {fr : Option Int} {fp : Option Addr}, Srt ItA.f_key ilt xs → FromOk (fun k : Int => Value.int .i64 k) 3 G fr fp → I pre L0 → (pre ++ sel ItA.f_key ilt fr xs <+: full) → (∀ (Lx : List Res) pre x L, I pre L → pre ++ [x] <+: full → FV Try.prog y [.int .i64 x.f_key, .agg #[.int .i64 x.f_value.Slot, .int .u64 x.f_value.Ballot, .string x.f_value.Value]] W (Lx ++ L) (fun v L' => ∃ (bb : Bool) (L2 : List Res), v = .bool bb ∧ ((bb = true ∧ I (pre ++ [x]) L2) ∨ (bb = false ∧ J L2)) ∧ L' = Lx ++ L2)) → CS Try.prog 52 #[.pointer (some ⟨b, 0, none⟩), .pointer fp, y] W (nodeR e_ItA eN126 130 d mn b xs :: (G ++ L0)) (fun r L' => ∃ (bb : Bool) (L2 : List Res), r = .bool bb ∧ ((bb = true ∧ I (pre ++ sel ItA.f_key ilt fr xs) L2) ∨ (bb = false ∧ J L2)) ∧ L' = nodeR e_ItA eN126 130 d mn b xs :: (G ++ L2))
set_option maxHeartbeats 4000000 in
theorem walk_step_A {d : Nat} (ih : ∀ d', d = d' + 1 → WalkSpec_A d') : WalkSpec_A d := by
 unfold WalkSpec_A
 intro W G mn b xs y I J full pre L0 fr fp srt hfr hI0 hfull hy
 refine f_door (l0 := [(0, .pointer (some ⟨b, 0, none⟩)), (1, .pointer fp), (2, y)]) Try.func52 Try.ntmps52 rfl rfl rfl ?_
 refine c_seq ?_
 refine c_region ?_
 refine o_assign rfl rfl ?_
 refine l_nil ?_
 refine q_then ?_
 refine c_seq ?_
 refine c_node ?_
 rintro q hq
 have hsi := hq.srt ilt_sto srt
 have hle := hq.le
 have hsh := hq.sh
 have hor := hsh.or
 refine c_conv (L' := blk b (.cells #[.slice q.a (q.items).length q.c, .slice q.ak ((q.kids.map Prod.fst)).length q.ck] 130 (0, 0)) :: row e_ItA.T e_ItA.sz q.a (q.items).length q.c (flat e_ItA q.items) :: row eN126.T eN126.sz q.ak ((q.kids.map Prod.fst)).length q.ck (flat eN126 (q.kids.map Prod.fst)) :: kidsR e_ItA eN126 130 d q.kids :: (G ++ L0)) (fun w S => S) ?_
 have hxs := hq.is
 have hkm : (q.kids.map Prod.fst).length = q.kids.length := List.length_map _
 refine c_region ?_
 refine o_assign rfl rfl ?_
 refine l_nil ?_
 refine q_then ?_
 refine c_seq ?_
 refine c_seq ?_
 refine c_region ?_
 refine o_move rfl rfl ?_
 refine o_bin rfl rfl rfl (b_pne Try.underlying120 _) ?_
 refine l_nil ?_
 refine q_then ?_
 refine c_cond rfl (fun h1 => ?_) (fun h1 => ?_)
 · -- h1T
  have h1b := h1
  try simp only [decide_eq_true_eq, decide_eq_false_iff_not, Bool.not_eq_eq_eq_not, Bool.not_true, Bool.not_false, Bool.not_eq_true', Bool.not_eq_false', Int.not_lt, Int.not_le, Bool.or_eq_true, Bool.and_eq_true] at h1
  obtain ⟨k, kb, hfrk, hfpk, hin⟩ := hfr.some (fun h9 => by rw [h9] at h1b; simp at h1b)
  subst hfpk
  refine c_region ?_
  refine o_move rfl rfl ?_
  refine o_move rfl rfl ?_
  refine o_nil rfl rfl ?_
  refine o_load1 rfl rfl Try.underlying3 rfl (rd_in (List.mem_cons_of_mem _ (List.mem_cons_of_mem _ (List.mem_cons_of_mem _ (List.mem_cons_of_mem _ (List.mem_append_left _ hin)))))) ?_
  refine l_f1 ?_
  refine l_f1 ?_
  refine o_call rfl cal59 rfl (search_A (k := k) (by omega) hsi) ?_
  rintro _ _ ⟨i15, fd15, ⟨hF15, hfd15⟩, rfl, rfl⟩
  refine o_move rfl rfl ?_
  refine o_extract rfl rfl rfl ?_
  refine o_extract rfl rfl rfl ?_
  refine o_assign rfl rfl ?_
  refine l_nil ?_
  refine q_then ?_
  refine c_seq ?_
  refine c_block ?_
  refine c_loop (α := Nat × (Option Int) × (Option Addr) × (List ItA) × (List Res)) (fun z => [(0, .pointer (some ⟨b, 0, none⟩)), (1, .pointer z.2.2.1), (2, y), (7, .int .i64 (z.1 : Int))]) (fun z => blk b (.cells #[.slice q.a (q.items).length q.c, .slice q.ak ((q.kids.map Prod.fst)).length q.ck] 130 (0, 0)) :: row e_ItA.T e_ItA.sz q.a (q.items).length q.c (flat e_ItA q.items) :: row eN126.T eN126.sz q.ak ((q.kids.map Prod.fst)).length q.ck (flat eN126 (q.kids.map Prod.fst)) :: kidsR e_ItA eN126 130 d q.kids :: (G ++ z.2.2.2.2)) (fun z => z.1 ≤ q.items.length + 1 ∧ FromOk (fun k : Int => Value.int .i64 k) 3 G z.2.1 z.2.2.1 ∧ I z.2.2.2.1 z.2.2.2.2 ∧ z.2.2.2.1 ++ restW ItA.f_key ilt (q.kids.map Prod.snd) q.items z.1 z.2.1 = pre ++ sel ItA.f_key ilt fr xs) (fun z => q.items.length + 1 - z.1) (i15, some k, some ⟨kb, 0, none⟩, pre, L0) (by exact ⟨by have := hF15.le; omega, .inr ⟨k, kb, rfl, rfl, hin⟩, hI0, by rw [hfrk, hxs, ← rest_some ilt_sto hor hF15 (by have h9 := srt; rw [hxs] at h9; exact h9)]⟩) ⟨(by first | rfl | exact vint (by omega)), (by first | rfl | exact vint (by omega)), (by first | rfl | exact vint (by omega)), (by first | rfl | exact vint (by omega)), trivial⟩ (fun w S => S) ?_
  rintro ⟨i, fo, fp2, pre2, Lc⟩ ⟨hi, hfo, hI, hpre⟩
  try dsimp only at *
  refine c_seq ?_
  refine c_seq ?_
  refine c_region ?_
  refine o_move rfl rfl ?_
  refine o_move rfl rfl ?_
  refine o_nil rfl rfl ?_
  refine o_fieldAddr (q := ⟨b, 0, none⟩) rfl rfl Try.underlying130 rfl ti127 rfl ?_
  refine o_load1 rfl rfl Try.underlying127 rfl (rd_mem 0 rfl rfl) ?_
  refine o_len rfl rfl Try.underlying127 ?_
  refine o_bin rfl rfl rfl b_leq ?_
  refine l_nil ?_
  refine q_then ?_
  refine c_cond rfl (fun h2 => ?_) (fun h2 => ?_)
  · -- h2T
   have h2b := h2
   try simp only [decide_eq_true_eq] at h2
   refine c_skip ?_
   refine q_then ?_
   refine c_seq ?_
   refine c_block ?_
   refine c_seq ?_
   refine c_seq ?_
   refine c_region ?_
   refine o_move rfl rfl ?_
   refine o_move rfl rfl ?_
   refine o_nil rfl rfl ?_
   refine o_fieldAddr (q := ⟨b, 1, none⟩) rfl rfl Try.underlying130 rfl ti128 rfl ?_
   refine o_load1 rfl rfl Try.underlying128 rfl (rd_mem 0 rfl rfl) ?_
   refine o_len rfl rfl Try.underlying128 ?_
   refine o_bin rfl rfl rfl b_lss ?_
   refine o_move rfl rfl ?_
   refine l_split (t := 34) rfl (fun h3 => ?_) (fun h3 => ?_)
   · -- h3T
    have h3b := h3
    try simp only [decide_eq_true_eq] at h3
    refine o_yes rfl rfl rfl ?_
    refine o_move rfl rfl ?_
    refine o_yes rfl rfl rfl ?_
    refine o_nil rfl rfl ?_
    refine o_yes rfl rfl rfl ?_
    refine o_fieldAddr (q := ⟨b, 1, none⟩) rfl rfl Try.underlying130 rfl ti128 rfl ?_
    refine o_yes rfl rfl rfl ?_
    refine o_load1 rfl rfl Try.underlying128 rfl (rd_mem 0 rfl rfl) ?_
    refine o_yes rfl rfl rfl ?_
    refine o_move rfl rfl ?_
    refine o_yes rfl rfl rfl ?_
    refine o_index eN126_ok rfl rfl rfl Try.underlying128 (by omega) (by omega) (rds_own eN126_ok 2 rfl) fun ad40 ead40 => ?_
    obtain ⟨x40, hx40⟩ : ∃ x, ((q.kids.map Prod.fst))[((i : Int)).toNat]? = some x := ⟨_, List.getElem?_eq_getElem (by omega)⟩
    refine o_yes rfl rfl rfl ?_
    refine o_load1 rfl rfl Try.underlying126 rfl (rd_sl0 eN126_ok ead40 (rds_own eN126_ok 2 rfl) hx40 rfl) ?_
    obtain ⟨⟨kb2, ys⟩, hkid⟩ : ∃ z, q.kids[i]? = some z := ⟨_, List.getElem?_eq_getElem (by omega)⟩
    have hxk : x40 = kb2 := by have h9 := hx40; rw [show ((i : Int)).toNat = i from rfl, List.getElem?_map, hkid] at h9; exact (Option.some.inj h9).symm
    have hd0 : d ≠ 0 := by rcases hsh with ⟨_, h9⟩ | ⟨h9, _, _⟩; exact absurd (List.getElem?_eq_some_iff.1 hkid).1 (by rw [h9]; simp); exact h9
    obtain ⟨d', hd'⟩ : ∃ d', d = d' + 1 := ⟨d - 1, by omega⟩
    have hsy : Srt ItA.f_key ilt ys := by have h9 := srt; rw [hxs] at h9; exact srt_kid hor (show (q.kids.map Prod.snd)[i]? = some ys by rw [List.getElem?_map, hkid]; rfl) h9
    have hat : atK (q.kids.map Prod.snd) i = ys := by unfold atK; rw [List.getElem?_map, hkid]; rfl
    refine l_f3 ?_
    refine l_conv (L' := nodeR e_ItA eN126 130 d' 2 kb2 ys :: kidsR e_ItA eN126 130 d (q.kids.eraseIdx i) :: _) (fun w S => by have h9 := Sat.kid_take hkid S; rw [hd'] at h9 ⊢; exact h9) ?_
    refine l_eq (t := 41) (v' := .pointer (some ⟨kb2, 0, none⟩)) rfl (by rw [hxk]) ?_
    refine o_yes rfl rfl rfl ?_
    refine o_move rfl rfl ?_
    refine o_yes rfl rfl rfl ?_
    refine o_move rfl rfl ?_
    refine o_yes rfl rfl rfl ?_
    refine o_call rfl cal52 rfl (ih d' hd' (G := [kidsR e_ItA eN126 130 d (q.kids.eraseIdx i), blk b (.cells #[.slice q.a (q.items).length q.c, .slice q.ak ((q.kids.map Prod.fst)).length q.ck] 130 (0, 0)), row e_ItA.T e_ItA.sz q.a (q.items).length q.c (flat e_ItA q.items), row eN126.T eN126.sz q.ak ((q.kids.map Prod.fst)).length q.ck (flat eN126 (q.kids.map Prod.fst))] ++ G) (L0 := Lc) (pre := pre2) (full := full) hsy (hfo.more _) hI (by rw [← hat]; exact (List.IsPrefix.trans (by rw [← hpre]; unfold restW; rw [← List.append_assoc]; exact List.prefix_append _ _) hfull)) hy) ?_
    rintro _ _ ⟨bb44, L44, rfl, hbb44, rfl⟩
    refine l_conv (L' := nodeR e_ItA eN126 130 d' 2 kb2 ys :: kidsR e_ItA eN126 130 d (q.kids.eraseIdx i) :: blk b (.cells #[.slice q.a (q.items).length q.c, .slice q.ak ((q.kids.map Prod.fst)).length q.ck] 130 (0, 0)) :: row e_ItA.T e_ItA.sz q.a (q.items).length q.c (flat e_ItA q.items) :: row eN126.T eN126.sz q.ak ((q.kids.map Prod.fst)).length q.ck (flat eN126 (q.kids.map Prod.fst)) :: (G ++ L44)) (fun w S => S) ?_
    refine l_conv (L' := kidsR e_ItA eN126 130 d q.kids :: _) (fun w S => Sat.kid_back hkid (by rw [hd'] at S ⊢; exact S)) ?_
    refine o_yes rfl rfl rfl ?_
    refine o_not rfl rfl ?_
    refine o_pick_true rfl rfl rfl ?_
    refine l_nil ?_
    refine q_then ?_
    refine c_cond rfl (fun h4 => ?_) (fun h4 => ?_)
    · -- h4T
     have h4b := h4
     try simp only [decide_eq_true_eq, decide_eq_false_iff_not, Bool.not_eq_eq_eq_not, Bool.not_true, Bool.not_false, Bool.not_eq_true', Bool.not_eq_false', Int.not_lt, Int.not_le, Bool.or_eq_true, Bool.and_eq_true] at h4
     refine c_seq ?_
     refine c_region ?_
     refine o_assign rfl rfl ?_
     refine l_nil ?_
     refine q_then ?_
     refine c_ret ?_
     refine q_pass_ret ?_
     refine q_block_ret ?_
     refine q_pass_ret ?_
     refine q_pass_ret ?_
     refine q_block_ret ?_
     refine q_pass_ret ?_
     refine q_conv (fun w S => S.perm p3) ?_
     refine q_conv (fun w S => S.perm p3) ?_
     refine q_conv (fun w S => S.perm p3) ?_
     exact f_ret (r_one rfl rfl) (⟨false, L44, rfl, .inr ⟨rfl, or_no hbb44 (by assumption)⟩, rfl⟩) (fun w S => nodeMk q hq S)
    · -- h4F
     have h4b := h4
     try simp only [decide_eq_true_eq, decide_eq_false_iff_not, Bool.not_eq_eq_eq_not, Bool.not_true, Bool.not_false, Bool.not_eq_true', Bool.not_eq_false', Int.not_lt, Int.not_le, Bool.or_eq_true, Bool.and_eq_true] at h4
     refine c_skip ?_
     refine q_then ?_
     refine c_seq ?_
     have hI9 : I (pre2 ++ sel ItA.f_key ilt fo ys) L44 := or_yes hbb44 (by assumption)
     have hpre9 : (pre2 ++ sel ItA.f_key ilt fo ys) ++ post (q.items.drop i) ((q.kids.map Prod.snd).drop (i + 1)) = pre ++ sel ItA.f_key ilt fr xs := by rw [← hpre]; unfold restW; rw [hat, List.append_assoc]
     refine c_region ?_
     refine o_assign rfl rfl ?_
     refine l_nil ?_
     refine q_then ?_
     refine c_seq ?_
     refine (Classical.em (i < q.items.length)).elim (fun hs9 => ?_) (fun hs9 => ?_)
     · -- hs9 True
      refine c_fact (p := ∃ ad, q.a = some ad) (rds_some (e := e_ItA) (xs := q.items) (rds_own e_ItA_ok 2 rfl) (by intro h0; have h00 := congrArg List.length h0; simp only [List.length_nil] at h00; omega)) ?_
      rintro ⟨ad9, ead9⟩
      refine c_held [kidsR e_ItA eN126 130 d q.kids, blk b (.cells #[.slice q.a (q.items).length q.c, .slice q.ak ((q.kids.map Prod.fst)).length q.ck] 130 (0, 0)), row e_ItA.T e_ItA.sz q.a (q.items).length q.c (flat e_ItA q.items), row eN126.T eN126.sz q.ak ((q.kids.map Prod.fst)).length q.ck (flat eN126 (q.kids.map Prod.fst))] (by kernel_rfl) rfl ?_
      refine h_take 0 rfl rfl (by kernel_rfl) (by kernel_rfl) (by kernel_rfl) (fun L0 => v_move rfl rfl) ?_
      refine h_take 1 rfl rfl (by kernel_rfl) (by kernel_rfl) (by kernel_rfl) (fun L0 => v_move rfl rfl) ?_
      refine h_take 2 rfl rfl (by kernel_rfl) (by kernel_rfl) (by kernel_rfl) (fun L0 => v_nil rfl rfl) ?_
      refine h_take 3 rfl rfl (by kernel_rfl) (by kernel_rfl) (by kernel_rfl) (fun L0 => v_fieldAddr (q := ⟨b, 0, none⟩) rfl rfl Try.underlying130 rfl ti127 rfl) ?_
      refine h_take 4 rfl rfl (by kernel_rfl) (by kernel_rfl) (by kernel_rfl) (fun L0 => v_load1 rfl rfl Try.underlying127 rfl (rd_mem 1 rfl rfl)) ?_
      refine h_take 5 rfl rfl (by kernel_rfl) (by kernel_rfl) (by kernel_rfl) (fun L0 => v_len rfl rfl Try.underlying127) ?_
      refine h_take 6 rfl rfl (by kernel_rfl) (by kernel_rfl) (by kernel_rfl) (fun L0 => v_bin rfl rfl rfl b_lss) ?_
      refine h_eq (t := 53) (v' := .bool true) rfl (show _ = Value.bool true from by rw [decide_eq_true (by omega)]) ?_
      refine h_take 7 rfl rfl (by kernel_rfl) (by kernel_rfl) (by kernel_rfl) (fun L0 => v_move rfl rfl) ?_
      refine h_take_yes 8 rfl rfl rfl rfl rfl (by kernel_rfl) (by kernel_rfl) (by kernel_rfl) (fun L0 => v_move rfl rfl) ?_
      refine h_take_yes 9 rfl rfl rfl rfl rfl (by kernel_rfl) (by kernel_rfl) (by kernel_rfl) (fun L0 => v_move rfl rfl) ?_
      refine h_take_yes 10 rfl rfl rfl rfl rfl (by kernel_rfl) (by kernel_rfl) (by kernel_rfl) (fun L0 => v_nil rfl rfl) ?_
      refine h_take_yes 11 rfl rfl rfl rfl rfl (by kernel_rfl) (by kernel_rfl) (by kernel_rfl) (fun L0 => v_fieldAddr (q := ⟨b, 0, none⟩) rfl rfl Try.underlying130 rfl ti127 rfl) ?_
      refine h_take_yes 12 rfl rfl rfl rfl rfl (by kernel_rfl) (by kernel_rfl) (by kernel_rfl) (fun L0 => v_load1 rfl rfl Try.underlying127 rfl (rd_mem 1 rfl rfl)) ?_
      refine h_take_yes 13 rfl rfl rfl rfl rfl (by kernel_rfl) (by kernel_rfl) (by kernel_rfl) (fun L0 => v_move rfl rfl) ?_
      refine h_take_yes 14 rfl rfl rfl rfl rfl (by kernel_rfl) (by kernel_rfl) (by kernel_rfl) (fun L0 => v_indexK e_ItA_ok ead9 rfl rfl rfl Try.underlying127 (by omega) (by omega)) ?_
      obtain ⟨x61, hx61⟩ : ∃ x, (q.items)[((i : Int)).toNat]? = some x := ⟨_, List.getElem?_eq_getElem (by omega)⟩
      have hx61' : q.items[i]? = some x61 := hx61
      refine h_take_yes 15 rfl rfl rfl rfl rfl (by kernel_rfl) (by kernel_rfl) (by kernel_rfl) (fun L0 => v_fieldAddr rfl rfl Try.underlying139 rfl ti3 (Addr.add_add' _ _ _)) ?_
      refine h_take_yes 16 rfl rfl rfl rfl rfl (by kernel_rfl) (by kernel_rfl) (by kernel_rfl) (fun L0 => v_load1 rfl rfl Try.underlying3 rfl (rd_sl e_ItA_ok ead9 (rds_own e_ItA_ok 2 rfl) hx61 rfl)) ?_
      refine h_take_yes 17 rfl rfl rfl rfl rfl (by kernel_rfl) (by kernel_rfl) (by kernel_rfl) (fun L0 => v_move rfl rfl) ?_
      refine h_take_yes 18 rfl rfl rfl rfl rfl (by kernel_rfl) (by kernel_rfl) (by kernel_rfl) (fun L0 => v_nil rfl rfl) ?_
      refine h_take_yes 19 rfl rfl rfl rfl rfl (by kernel_rfl) (by kernel_rfl) (by kernel_rfl) (fun L0 => v_fieldAddr (q := ⟨b, 0, none⟩) rfl rfl Try.underlying130 rfl ti127 rfl) ?_
      refine h_take_yes 20 rfl rfl rfl rfl rfl (by kernel_rfl) (by kernel_rfl) (by kernel_rfl) (fun L0 => v_load1 rfl rfl Try.underlying127 rfl (rd_mem 1 rfl rfl)) ?_
      refine h_take_yes 21 rfl rfl rfl rfl rfl (by kernel_rfl) (by kernel_rfl) (by kernel_rfl) (fun L0 => v_move rfl rfl) ?_
      refine h_take_yes 22 rfl rfl rfl rfl rfl (by kernel_rfl) (by kernel_rfl) (by kernel_rfl) (fun L0 => v_indexK e_ItA_ok ead9 rfl rfl rfl Try.underlying127 (by omega) (by omega)) ?_
      obtain ⟨x69, hx69⟩ : ∃ x, (q.items)[((i : Int)).toNat]? = some x := ⟨_, List.getElem?_eq_getElem (by omega)⟩
      have e69 : x69 = x61 := by rw [hx61] at hx69; exact (Option.some.inj hx69).symm
      refine h_take_yes 23 rfl rfl rfl rfl rfl (by kernel_rfl) (by kernel_rfl) (by kernel_rfl) (fun L0 => v_fieldAddr rfl rfl Try.underlying139 rfl ti40 (Addr.add_add' _ _ _)) ?_
      refine h_take_yes 24 rfl rfl rfl rfl rfl (by kernel_rfl) (by kernel_rfl) (by kernel_rfl) (fun L0 => v_loadn (vs := [.int .i64 x69.f_value.Slot, .int .u64 x69.f_value.Ballot, .string x69.f_value.Value]) rfl rfl Try.underlying40 rfl ti40 (rdn_slo (n := 3) e_ItA_ok ead9 (rds_own e_ItA_ok 2 rfl) hx69 rfl)) ?_
      refine h_eq (t := 71) (v' := .agg #[.int .i64 x61.f_value.Slot, .int .u64 x61.f_value.Ballot, .string x61.f_value.Value]) rfl (by rw [e69]) ?_
      refine h_one 25 rfl (by kernel_rfl) ?_
      refine o_yes rfl rfl rfl ?_
      refine l_conv (L' := ([kidsR e_ItA eN126 130 d q.kids, blk b (.cells #[.slice q.a (q.items).length q.c, .slice q.ak ((q.kids.map Prod.fst)).length q.ck] 130 (0, 0)), row e_ItA.T e_ItA.sz q.a (q.items).length q.c (flat e_ItA q.items), row eN126.T eN126.sz q.ak ((q.kids.map Prod.fst)).length q.ck (flat eN126 (q.kids.map Prod.fst))] ++ G) ++ L44) (fun w S => S) ?_
      refine o_callV rfl rfl rfl (hy ([kidsR e_ItA eN126 130 d q.kids, blk b (.cells #[.slice q.a (q.items).length q.c, .slice q.ak ((q.kids.map Prod.fst)).length q.ck] 130 (0, 0)), row e_ItA.T e_ItA.sz q.a (q.items).length q.c (flat e_ItA q.items), row eN126.T eN126.sz q.ak ((q.kids.map Prod.fst)).length q.ck (flat eN126 (q.kids.map Prod.fst))] ++ G) (pre2 ++ sel ItA.f_key ilt fo ys) x61 L44 hI9 (List.IsPrefix.trans (by rw [← hpre9]; rw [rest_item (key := ItA.f_key) (lt := ilt) hor hx61']; exact prefix_snoc) hfull)) ?_
      rintro _ _ ⟨bb72, L72, rfl, hbb72, rfl⟩
      refine l_conv (L' := kidsR e_ItA eN126 130 d q.kids :: blk b (.cells #[.slice q.a (q.items).length q.c, .slice q.ak ((q.kids.map Prod.fst)).length q.ck] 130 (0, 0)) :: row e_ItA.T e_ItA.sz q.a (q.items).length q.c (flat e_ItA q.items) :: row eN126.T eN126.sz q.ak ((q.kids.map Prod.fst)).length q.ck (flat eN126 (q.kids.map Prod.fst)) :: (G ++ L72)) (fun w S => S) ?_
      refine l_nil ?_
      refine h_next ?_
      refine h_take_yes 26 rfl rfl rfl rfl rfl (by kernel_rfl) (by kernel_rfl) (by kernel_rfl) (fun L0 => v_not rfl rfl) ?_
      refine h_take 27 rfl rfl (by kernel_rfl) (by kernel_rfl) (by kernel_rfl) (fun L0 => v_pick_true rfl rfl rfl) ?_
      refine h_done (by kernel_rfl) ?_
      refine q_then ?_
      refine c_cond rfl (fun h5 => ?_) (fun h5 => ?_)
      · -- h5T
       have h5b := h5
       try simp only [decide_eq_true_eq, decide_eq_false_iff_not, Bool.not_eq_eq_eq_not, Bool.not_true, Bool.not_false, Bool.not_eq_true', Bool.not_eq_false', Int.not_lt, Int.not_le, Bool.or_eq_true, Bool.and_eq_true] at h5
       refine c_seq ?_
       refine c_region ?_
       refine o_assign rfl rfl ?_
       refine l_nil ?_
       refine q_then ?_
       refine c_ret ?_
       refine q_block_ret ?_
       refine q_pass_ret ?_
       refine q_pass_ret ?_
       refine q_block_ret ?_
       refine q_pass_ret ?_
       refine q_conv (fun w S => S.perm p3) ?_
       refine q_conv (fun w S => S.perm p3) ?_
       refine q_conv (fun w S => S.perm p3) ?_
       exact f_ret (r_one rfl rfl) (⟨false, L72, rfl, .inr ⟨rfl, or_no hbb72 (by assumption)⟩, rfl⟩) (fun w S => nodeMk q hq S)
      · -- h5F
       have h5b := h5
       try simp only [decide_eq_true_eq, decide_eq_false_iff_not, Bool.not_eq_eq_eq_not, Bool.not_true, Bool.not_false, Bool.not_eq_true', Bool.not_eq_false', Int.not_lt, Int.not_le, Bool.or_eq_true, Bool.and_eq_true] at h5
       refine c_skip ?_
       refine q_block ?_
       refine q_then ?_
       refine c_region ?_
       refine o_move rfl rfl ?_
       refine o_bin rfl rfl rfl (b_add (wrap_i64 (by omega) (by omega))) ?_
       refine o_assign rfl rfl ?_
       refine l_nil ?_
       refine q_conv (fun w S => S.perm p3) ?_
       refine q_conv (fun w S => S.perm p3) ?_
       refine q_conv (fun w S => S.perm p3) ?_
       exact q_round (i + 1, none, none, ((pre2 ++ sel ItA.f_key ilt fo ys) ++ [x61]), L72) (by exact ⟨by omega, .inl ⟨rfl, rfl⟩, or_yes hbb72 (by assumption), by rw [← hpre9, rest_item (key := ItA.f_key) (lt := ilt) hor hx61', List.append_assoc]; rfl⟩) (by (try dsimp only); omega) ⟨(by first | rfl | exact vint (by omega)), (by first | rfl | exact vint (by omega)), (by first | rfl | exact vint (by omega)), (by first | rfl | exact vint (by omega)), trivial⟩ (fun w S => S)
     · -- hs9 False
      refine c_held [kidsR e_ItA eN126 130 d q.kids, blk b (.cells #[.slice q.a (q.items).length q.c, .slice q.ak ((q.kids.map Prod.fst)).length q.ck] 130 (0, 0)), row e_ItA.T e_ItA.sz q.a (q.items).length q.c (flat e_ItA q.items), row eN126.T eN126.sz q.ak ((q.kids.map Prod.fst)).length q.ck (flat eN126 (q.kids.map Prod.fst))] (by kernel_rfl) rfl ?_
      refine h_take 0 rfl rfl (by kernel_rfl) (by kernel_rfl) (by kernel_rfl) (fun L0 => v_move rfl rfl) ?_
      refine h_take 1 rfl rfl (by kernel_rfl) (by kernel_rfl) (by kernel_rfl) (fun L0 => v_move rfl rfl) ?_
      refine h_take 2 rfl rfl (by kernel_rfl) (by kernel_rfl) (by kernel_rfl) (fun L0 => v_nil rfl rfl) ?_
      refine h_take 3 rfl rfl (by kernel_rfl) (by kernel_rfl) (by kernel_rfl) (fun L0 => v_fieldAddr (q := ⟨b, 0, none⟩) rfl rfl Try.underlying130 rfl ti127 rfl) ?_
      refine h_take 4 rfl rfl (by kernel_rfl) (by kernel_rfl) (by kernel_rfl) (fun L0 => v_load1 rfl rfl Try.underlying127 rfl (rd_mem 1 rfl rfl)) ?_
      refine h_take 5 rfl rfl (by kernel_rfl) (by kernel_rfl) (by kernel_rfl) (fun L0 => v_len rfl rfl Try.underlying127) ?_
      refine h_take 6 rfl rfl (by kernel_rfl) (by kernel_rfl) (by kernel_rfl) (fun L0 => v_bin rfl rfl rfl b_lss) ?_
      refine h_eq (t := 53) (v' := .bool false) rfl (show _ = Value.bool false from by rw [decide_eq_false (by omega)]) ?_
      refine h_take 7 rfl rfl (by kernel_rfl) (by kernel_rfl) (by kernel_rfl) (fun L0 => v_move rfl rfl) ?_
      refine h_take_no 8 rfl rfl rfl rfl rfl (by kernel_rfl) (by kernel_rfl) (by kernel_rfl) ?_
      refine h_take_no 9 rfl rfl rfl rfl rfl (by kernel_rfl) (by kernel_rfl) (by kernel_rfl) ?_
      refine h_take_no 10 rfl rfl rfl rfl rfl (by kernel_rfl) (by kernel_rfl) (by kernel_rfl) ?_
      refine h_take_no 11 rfl rfl rfl rfl rfl (by kernel_rfl) (by kernel_rfl) (by kernel_rfl) ?_
      refine h_take_no 12 rfl rfl rfl rfl rfl (by kernel_rfl) (by kernel_rfl) (by kernel_rfl) ?_
      refine h_take_no 13 rfl rfl rfl rfl rfl (by kernel_rfl) (by kernel_rfl) (by kernel_rfl) ?_
      refine h_take_no 14 rfl rfl rfl rfl rfl (by kernel_rfl) (by kernel_rfl) (by kernel_rfl) ?_
      refine h_take_no 15 rfl rfl rfl rfl rfl (by kernel_rfl) (by kernel_rfl) (by kernel_rfl) ?_
      refine h_take_no 16 rfl rfl rfl rfl rfl (by kernel_rfl) (by kernel_rfl) (by kernel_rfl) ?_
      refine h_take_no 17 rfl rfl rfl rfl rfl (by kernel_rfl) (by kernel_rfl) (by kernel_rfl) ?_
      refine h_take_no 18 rfl rfl rfl rfl rfl (by kernel_rfl) (by kernel_rfl) (by kernel_rfl) ?_
      refine h_take_no 19 rfl rfl rfl rfl rfl (by kernel_rfl) (by kernel_rfl) (by kernel_rfl) ?_
      refine h_take_no 20 rfl rfl rfl rfl rfl (by kernel_rfl) (by kernel_rfl) (by kernel_rfl) ?_
      refine h_take_no 21 rfl rfl rfl rfl rfl (by kernel_rfl) (by kernel_rfl) (by kernel_rfl) ?_
      refine h_take_no 22 rfl rfl rfl rfl rfl (by kernel_rfl) (by kernel_rfl) (by kernel_rfl) ?_
      refine h_take_no 23 rfl rfl rfl rfl rfl (by kernel_rfl) (by kernel_rfl) (by kernel_rfl) ?_
      refine h_take_no 24 rfl rfl rfl rfl rfl (by kernel_rfl) (by kernel_rfl) (by kernel_rfl) ?_
      refine h_take_no 25 rfl rfl rfl rfl rfl (by kernel_rfl) (by kernel_rfl) (by kernel_rfl) ?_
      refine h_take_no 26 rfl rfl rfl rfl rfl (by kernel_rfl) (by kernel_rfl) (by kernel_rfl) ?_
      refine h_take 27 rfl rfl (by kernel_rfl) (by kernel_rfl) (by kernel_rfl) (fun L0 => v_pick_false rfl rfl rfl) ?_
      refine h_done (by kernel_rfl) ?_
      refine q_then ?_
      refine c_false rfl ?_
      refine c_skip ?_
      refine q_block ?_
      refine q_then ?_
      refine c_region ?_
      refine o_move rfl rfl ?_
      refine o_bin rfl rfl rfl (b_add (wrap_i64 (by omega) (by omega))) ?_
      refine o_assign rfl rfl ?_
      refine l_nil ?_
      refine q_conv (fun w S => S.perm p3) ?_
      refine q_conv (fun w S => S.perm p3) ?_
      refine q_conv (fun w S => S.perm p3) ?_
      exact q_round (i + 1, none, none, (pre2 ++ sel ItA.f_key ilt fo ys), L44) (by exact ⟨by omega, .inl ⟨rfl, rfl⟩, hI9, by rw [← hpre9, rest_end (key := ItA.f_key) (lt := ilt) hor (by omega)]⟩) (by (try dsimp only); omega) ⟨(by first | rfl | exact vint (by omega)), (by first | rfl | exact vint (by omega)), (by first | rfl | exact vint (by omega)), (by first | rfl | exact vint (by omega)), trivial⟩ (fun w S => S)
   · -- h3F
    have h3b := h3
    try simp only [decide_eq_false_iff_not, Int.not_lt, Int.not_le] at h3
    refine o_no rfl rfl rfl rfl ?_
    refine o_no rfl rfl rfl rfl ?_
    refine o_no rfl rfl rfl rfl ?_
    refine o_no rfl rfl rfl rfl ?_
    refine o_no rfl rfl rfl rfl ?_
    refine o_no rfl rfl rfl rfl ?_
    refine o_no rfl rfl rfl rfl ?_
    refine o_no rfl rfl rfl rfl ?_
    refine o_no rfl rfl rfl rfl ?_
    refine o_no rfl rfl rfl rfl ?_
    refine o_no rfl rfl rfl rfl ?_
    refine o_pick_false rfl rfl rfl ?_
    refine l_nil ?_
    refine q_then ?_
    refine c_false rfl ?_
    refine c_skip ?_
    refine q_then ?_
    refine c_seq ?_
    have hat : atK (q.kids.map Prod.snd) i = [] := by unfold atK; rw [List.getElem?_eq_none (by rw [List.length_map]; omega)]; rfl
    have hI9 := hI
    have hpre9 : pre2 ++ post (q.items.drop i) ((q.kids.map Prod.snd).drop (i + 1)) = pre ++ sel ItA.f_key ilt fr xs := by rw [← hpre]; unfold restW; rw [hat, sel_nil, List.nil_append]
    refine c_region ?_
    refine o_assign rfl rfl ?_
    refine l_nil ?_
    refine q_then ?_
    refine c_seq ?_
    refine (Classical.em (i < q.items.length)).elim (fun hs9 => ?_) (fun hs9 => ?_)
    · -- hs9 True
     refine c_fact (p := ∃ ad, q.a = some ad) (rds_some (e := e_ItA) (xs := q.items) (rds_own e_ItA_ok 1 rfl) (by intro h0; have h00 := congrArg List.length h0; simp only [List.length_nil] at h00; omega)) ?_
     rintro ⟨ad9, ead9⟩
     refine c_held [blk b (.cells #[.slice q.a (q.items).length q.c, .slice q.ak ((q.kids.map Prod.fst)).length q.ck] 130 (0, 0)), row e_ItA.T e_ItA.sz q.a (q.items).length q.c (flat e_ItA q.items), row eN126.T eN126.sz q.ak ((q.kids.map Prod.fst)).length q.ck (flat eN126 (q.kids.map Prod.fst)), kidsR e_ItA eN126 130 d q.kids] (by kernel_rfl) rfl ?_
     refine h_take 0 rfl rfl (by kernel_rfl) (by kernel_rfl) (by kernel_rfl) (fun L0 => v_move rfl rfl) ?_
     refine h_take 1 rfl rfl (by kernel_rfl) (by kernel_rfl) (by kernel_rfl) (fun L0 => v_move rfl rfl) ?_
     refine h_take 2 rfl rfl (by kernel_rfl) (by kernel_rfl) (by kernel_rfl) (fun L0 => v_nil rfl rfl) ?_
     refine h_take 3 rfl rfl (by kernel_rfl) (by kernel_rfl) (by kernel_rfl) (fun L0 => v_fieldAddr (q := ⟨b, 0, none⟩) rfl rfl Try.underlying130 rfl ti127 rfl) ?_
     refine h_take 4 rfl rfl (by kernel_rfl) (by kernel_rfl) (by kernel_rfl) (fun L0 => v_load1 rfl rfl Try.underlying127 rfl (rd_mem 0 rfl rfl)) ?_
     refine h_take 5 rfl rfl (by kernel_rfl) (by kernel_rfl) (by kernel_rfl) (fun L0 => v_len rfl rfl Try.underlying127) ?_
     refine h_take 6 rfl rfl (by kernel_rfl) (by kernel_rfl) (by kernel_rfl) (fun L0 => v_bin rfl rfl rfl b_lss) ?_
     refine h_eq (t := 53) (v' := .bool true) rfl (show _ = Value.bool true from by rw [decide_eq_true (by omega)]) ?_
     refine h_take 7 rfl rfl (by kernel_rfl) (by kernel_rfl) (by kernel_rfl) (fun L0 => v_move rfl rfl) ?_
     refine h_take_yes 8 rfl rfl rfl rfl rfl (by kernel_rfl) (by kernel_rfl) (by kernel_rfl) (fun L0 => v_move rfl rfl) ?_
     refine h_take_yes 9 rfl rfl rfl rfl rfl (by kernel_rfl) (by kernel_rfl) (by kernel_rfl) (fun L0 => v_move rfl rfl) ?_
     refine h_take_yes 10 rfl rfl rfl rfl rfl (by kernel_rfl) (by kernel_rfl) (by kernel_rfl) (fun L0 => v_nil rfl rfl) ?_
     refine h_take_yes 11 rfl rfl rfl rfl rfl (by kernel_rfl) (by kernel_rfl) (by kernel_rfl) (fun L0 => v_fieldAddr (q := ⟨b, 0, none⟩) rfl rfl Try.underlying130 rfl ti127 rfl) ?_
     refine h_take_yes 12 rfl rfl rfl rfl rfl (by kernel_rfl) (by kernel_rfl) (by kernel_rfl) (fun L0 => v_load1 rfl rfl Try.underlying127 rfl (rd_mem 0 rfl rfl)) ?_
     refine h_take_yes 13 rfl rfl rfl rfl rfl (by kernel_rfl) (by kernel_rfl) (by kernel_rfl) (fun L0 => v_move rfl rfl) ?_
     refine h_take_yes 14 rfl rfl rfl rfl rfl (by kernel_rfl) (by kernel_rfl) (by kernel_rfl) (fun L0 => v_indexK e_ItA_ok ead9 rfl rfl rfl Try.underlying127 (by omega) (by omega)) ?_
     obtain ⟨x61, hx61⟩ : ∃ x, (q.items)[((i : Int)).toNat]? = some x := ⟨_, List.getElem?_eq_getElem (by omega)⟩
     have hx61' : q.items[i]? = some x61 := hx61
     refine h_take_yes 15 rfl rfl rfl rfl rfl (by kernel_rfl) (by kernel_rfl) (by kernel_rfl) (fun L0 => v_fieldAddr rfl rfl Try.underlying139 rfl ti3 (Addr.add_add' _ _ _)) ?_
     refine h_take_yes 16 rfl rfl rfl rfl rfl (by kernel_rfl) (by kernel_rfl) (by kernel_rfl) (fun L0 => v_load1 rfl rfl Try.underlying3 rfl (rd_sl e_ItA_ok ead9 (rds_own e_ItA_ok 1 rfl) hx61 rfl)) ?_
     refine h_take_yes 17 rfl rfl rfl rfl rfl (by kernel_rfl) (by kernel_rfl) (by kernel_rfl) (fun L0 => v_move rfl rfl) ?_
     refine h_take_yes 18 rfl rfl rfl rfl rfl (by kernel_rfl) (by kernel_rfl) (by kernel_rfl) (fun L0 => v_nil rfl rfl) ?_
     refine h_take_yes 19 rfl rfl rfl rfl rfl (by kernel_rfl) (by kernel_rfl) (by kernel_rfl) (fun L0 => v_fieldAddr (q := ⟨b, 0, none⟩) rfl rfl Try.underlying130 rfl ti127 rfl) ?_
     refine h_take_yes 20 rfl rfl rfl rfl rfl (by kernel_rfl) (by kernel_rfl) (by kernel_rfl) (fun L0 => v_load1 rfl rfl Try.underlying127 rfl (rd_mem 0 rfl rfl)) ?_
     refine h_take_yes 21 rfl rfl rfl rfl rfl (by kernel_rfl) (by kernel_rfl) (by kernel_rfl) (fun L0 => v_move rfl rfl) ?_
     refine h_take_yes 22 rfl rfl rfl rfl rfl (by kernel_rfl) (by kernel_rfl) (by kernel_rfl) (fun L0 => v_indexK e_ItA_ok ead9 rfl rfl rfl Try.underlying127 (by omega) (by omega)) ?_
     obtain ⟨x69, hx69⟩ : ∃ x, (q.items)[((i : Int)).toNat]? = some x := ⟨_, List.getElem?_eq_getElem (by omega)⟩
     have e69 : x69 = x61 := by rw [hx61] at hx69; exact (Option.some.inj hx69).symm
     refine h_take_yes 23 rfl rfl rfl rfl rfl (by kernel_rfl) (by kernel_rfl) (by kernel_rfl) (fun L0 => v_fieldAddr rfl rfl Try.underlying139 rfl ti40 (Addr.add_add' _ _ _)) ?_
     refine h_take_yes 24 rfl rfl rfl rfl rfl (by kernel_rfl) (by kernel_rfl) (by kernel_rfl) (fun L0 => v_loadn (vs := [.int .i64 x69.f_value.Slot, .int .u64 x69.f_value.Ballot, .string x69.f_value.Value]) rfl rfl Try.underlying40 rfl ti40 (rdn_slo (n := 3) e_ItA_ok ead9 (rds_own e_ItA_ok 1 rfl) hx69 rfl)) ?_
     refine h_eq (t := 71) (v' := .agg #[.int .i64 x61.f_value.Slot, .int .u64 x61.f_value.Ballot, .string x61.f_value.Value]) rfl (by rw [e69]) ?_
     refine h_one 25 rfl (by kernel_rfl) ?_
     refine o_yes rfl rfl rfl ?_
     refine l_conv (L' := ([blk b (.cells #[.slice q.a (q.items).length q.c, .slice q.ak ((q.kids.map Prod.fst)).length q.ck] 130 (0, 0)), row e_ItA.T e_ItA.sz q.a (q.items).length q.c (flat e_ItA q.items), row eN126.T eN126.sz q.ak ((q.kids.map Prod.fst)).length q.ck (flat eN126 (q.kids.map Prod.fst)), kidsR e_ItA eN126 130 d q.kids] ++ G) ++ Lc) (fun w S => S) ?_
     refine o_callV rfl rfl rfl (hy ([blk b (.cells #[.slice q.a (q.items).length q.c, .slice q.ak ((q.kids.map Prod.fst)).length q.ck] 130 (0, 0)), row e_ItA.T e_ItA.sz q.a (q.items).length q.c (flat e_ItA q.items), row eN126.T eN126.sz q.ak ((q.kids.map Prod.fst)).length q.ck (flat eN126 (q.kids.map Prod.fst)), kidsR e_ItA eN126 130 d q.kids] ++ G) pre2 x61 Lc hI9 (List.IsPrefix.trans (by rw [← hpre9]; rw [rest_item (key := ItA.f_key) (lt := ilt) hor hx61']; exact prefix_snoc) hfull)) ?_
     rintro _ _ ⟨bb72, L72, rfl, hbb72, rfl⟩
     refine l_conv (L' := blk b (.cells #[.slice q.a (q.items).length q.c, .slice q.ak ((q.kids.map Prod.fst)).length q.ck] 130 (0, 0)) :: row e_ItA.T e_ItA.sz q.a (q.items).length q.c (flat e_ItA q.items) :: row eN126.T eN126.sz q.ak ((q.kids.map Prod.fst)).length q.ck (flat eN126 (q.kids.map Prod.fst)) :: kidsR e_ItA eN126 130 d q.kids :: (G ++ L72)) (fun w S => S) ?_
     refine l_nil ?_
     refine h_next ?_
     refine h_take_yes 26 rfl rfl rfl rfl rfl (by kernel_rfl) (by kernel_rfl) (by kernel_rfl) (fun L0 => v_not rfl rfl) ?_
     refine h_take 27 rfl rfl (by kernel_rfl) (by kernel_rfl) (by kernel_rfl) (fun L0 => v_pick_true rfl rfl rfl) ?_
     refine h_done (by kernel_rfl) ?_
     refine q_then ?_
     refine c_cond rfl (fun h6 => ?_) (fun h6 => ?_)
     · -- h6T
      have h6b := h6
      try simp only [decide_eq_true_eq, decide_eq_false_iff_not, Bool.not_eq_eq_eq_not, Bool.not_true, Bool.not_false, Bool.not_eq_true', Bool.not_eq_false', Int.not_lt, Int.not_le, Bool.or_eq_true, Bool.and_eq_true] at h6
      refine c_seq ?_
      refine c_region ?_
      refine o_assign rfl rfl ?_
      refine l_nil ?_
      refine q_then ?_
      refine c_ret ?_
      refine q_block_ret ?_
      refine q_pass_ret ?_
      refine q_pass_ret ?_
      refine q_block_ret ?_
      refine q_pass_ret ?_
      exact f_ret (r_one rfl rfl) (⟨false, L72, rfl, .inr ⟨rfl, or_no hbb72 (by assumption)⟩, rfl⟩) (fun w S => nodeMk q hq S)
     · -- h6F
      have h6b := h6
      try simp only [decide_eq_true_eq, decide_eq_false_iff_not, Bool.not_eq_eq_eq_not, Bool.not_true, Bool.not_false, Bool.not_eq_true', Bool.not_eq_false', Int.not_lt, Int.not_le, Bool.or_eq_true, Bool.and_eq_true] at h6
      refine c_skip ?_
      refine q_block ?_
      refine q_then ?_
      refine c_region ?_
      refine o_move rfl rfl ?_
      refine o_bin rfl rfl rfl (b_add (wrap_i64 (by omega) (by omega))) ?_
      refine o_assign rfl rfl ?_
      refine l_nil ?_
      exact q_round (i + 1, none, none, (pre2 ++ [x61]), L72) (by exact ⟨by omega, .inl ⟨rfl, rfl⟩, or_yes hbb72 (by assumption), by rw [← hpre9, rest_item (key := ItA.f_key) (lt := ilt) hor hx61', List.append_assoc]; rfl⟩) (by (try dsimp only); omega) ⟨(by first | rfl | exact vint (by omega)), (by first | rfl | exact vint (by omega)), (by first | rfl | exact vint (by omega)), (by first | rfl | exact vint (by omega)), trivial⟩ (fun w S => S)
    · -- hs9 False
     refine c_held [blk b (.cells #[.slice q.a (q.items).length q.c, .slice q.ak ((q.kids.map Prod.fst)).length q.ck] 130 (0, 0)), row e_ItA.T e_ItA.sz q.a (q.items).length q.c (flat e_ItA q.items), row eN126.T eN126.sz q.ak ((q.kids.map Prod.fst)).length q.ck (flat eN126 (q.kids.map Prod.fst)), kidsR e_ItA eN126 130 d q.kids] (by kernel_rfl) rfl ?_
     refine h_take 0 rfl rfl (by kernel_rfl) (by kernel_rfl) (by kernel_rfl) (fun L0 => v_move rfl rfl) ?_
     refine h_take 1 rfl rfl (by kernel_rfl) (by kernel_rfl) (by kernel_rfl) (fun L0 => v_move rfl rfl) ?_
     refine h_take 2 rfl rfl (by kernel_rfl) (by kernel_rfl) (by kernel_rfl) (fun L0 => v_nil rfl rfl) ?_
     refine h_take 3 rfl rfl (by kernel_rfl) (by kernel_rfl) (by kernel_rfl) (fun L0 => v_fieldAddr (q := ⟨b, 0, none⟩) rfl rfl Try.underlying130 rfl ti127 rfl) ?_
     refine h_take 4 rfl rfl (by kernel_rfl) (by kernel_rfl) (by kernel_rfl) (fun L0 => v_load1 rfl rfl Try.underlying127 rfl (rd_mem 0 rfl rfl)) ?_
     refine h_take 5 rfl rfl (by kernel_rfl) (by kernel_rfl) (by kernel_rfl) (fun L0 => v_len rfl rfl Try.underlying127) ?_
     refine h_take 6 rfl rfl (by kernel_rfl) (by kernel_rfl) (by kernel_rfl) (fun L0 => v_bin rfl rfl rfl b_lss) ?_
     refine h_eq (t := 53) (v' := .bool false) rfl (show _ = Value.bool false from by rw [decide_eq_false (by omega)]) ?_
     refine h_take 7 rfl rfl (by kernel_rfl) (by kernel_rfl) (by kernel_rfl) (fun L0 => v_move rfl rfl) ?_
     refine h_take_no 8 rfl rfl rfl rfl rfl (by kernel_rfl) (by kernel_rfl) (by kernel_rfl) ?_
     refine h_take_no 9 rfl rfl rfl rfl rfl (by kernel_rfl) (by kernel_rfl) (by kernel_rfl) ?_
     refine h_take_no 10 rfl rfl rfl rfl rfl (by kernel_rfl) (by kernel_rfl) (by kernel_rfl) ?_
     refine h_take_no 11 rfl rfl rfl rfl rfl (by kernel_rfl) (by kernel_rfl) (by kernel_rfl) ?_
     refine h_take_no 12 rfl rfl rfl rfl rfl (by kernel_rfl) (by kernel_rfl) (by kernel_rfl) ?_
     refine h_take_no 13 rfl rfl rfl rfl rfl (by kernel_rfl) (by kernel_rfl) (by kernel_rfl) ?_
     refine h_take_no 14 rfl rfl rfl rfl rfl (by kernel_rfl) (by kernel_rfl) (by kernel_rfl) ?_
     refine h_take_no 15 rfl rfl rfl rfl rfl (by kernel_rfl) (by kernel_rfl) (by kernel_rfl) ?_
     refine h_take_no 16 rfl rfl rfl rfl rfl (by kernel_rfl) (by kernel_rfl) (by kernel_rfl) ?_
     refine h_take_no 17 rfl rfl rfl rfl rfl (by kernel_rfl) (by kernel_rfl) (by kernel_rfl) ?_
     refine h_take_no 18 rfl rfl rfl rfl rfl (by kernel_rfl) (by kernel_rfl) (by kernel_rfl) ?_
     refine h_take_no 19 rfl rfl rfl rfl rfl (by kernel_rfl) (by kernel_rfl) (by kernel_rfl) ?_
     refine h_take_no 20 rfl rfl rfl rfl rfl (by kernel_rfl) (by kernel_rfl) (by kernel_rfl) ?_
     refine h_take_no 21 rfl rfl rfl rfl rfl (by kernel_rfl) (by kernel_rfl) (by kernel_rfl) ?_
     refine h_take_no 22 rfl rfl rfl rfl rfl (by kernel_rfl) (by kernel_rfl) (by kernel_rfl) ?_
     refine h_take_no 23 rfl rfl rfl rfl rfl (by kernel_rfl) (by kernel_rfl) (by kernel_rfl) ?_
     refine h_take_no 24 rfl rfl rfl rfl rfl (by kernel_rfl) (by kernel_rfl) (by kernel_rfl) ?_
     refine h_take_no 25 rfl rfl rfl rfl rfl (by kernel_rfl) (by kernel_rfl) (by kernel_rfl) ?_
     refine h_take_no 26 rfl rfl rfl rfl rfl (by kernel_rfl) (by kernel_rfl) (by kernel_rfl) ?_
     refine h_take 27 rfl rfl (by kernel_rfl) (by kernel_rfl) (by kernel_rfl) (fun L0 => v_pick_false rfl rfl rfl) ?_
     refine h_done (by kernel_rfl) ?_
     refine q_then ?_
     refine c_false rfl ?_
     refine c_skip ?_
     refine q_block ?_
     refine q_then ?_
     refine c_region ?_
     refine o_move rfl rfl ?_
     refine o_bin rfl rfl rfl (b_add (wrap_i64 (by omega) (by omega))) ?_
     refine o_assign rfl rfl ?_
     refine l_nil ?_
     exact q_round (i + 1, none, none, pre2, Lc) (by exact ⟨by omega, .inl ⟨rfl, rfl⟩, hI9, by rw [← hpre9, rest_end (key := ItA.f_key) (lt := ilt) hor (by omega)]⟩) (by (try dsimp only); omega) ⟨(by first | rfl | exact vint (by omega)), (by first | rfl | exact vint (by omega)), (by first | rfl | exact vint (by omega)), (by first | rfl | exact vint (by omega)), trivial⟩ (fun w S => S)
  · -- h2F
   have h2b := h2
   try simp only [decide_eq_false_iff_not, Int.not_lt, Int.not_le] at h2
   refine c_exit ?_
   refine q_pass_exit ?_
   refine q_pass_exit ?_
   refine q_hit ?_
   refine q_then ?_
   refine c_seq ?_
   refine c_region ?_
   refine o_assign rfl rfl ?_
   refine l_nil ?_
   refine q_then ?_
   refine c_ret ?_
   exact f_ret (r_one rfl rfl) (⟨true, Lc, rfl, .inl ⟨rfl, by rw [← hpre, rest_over hor (by omega), List.append_nil]; exact hI⟩, rfl⟩) (fun w S => nodeMk q hq S)
 · -- h1F
  have h1b := h1
  try simp only [decide_eq_true_eq, decide_eq_false_iff_not, Bool.not_eq_eq_eq_not, Bool.not_true, Bool.not_false, Bool.not_eq_true', Bool.not_eq_false', Int.not_lt, Int.not_le, Bool.or_eq_true, Bool.and_eq_true] at h1
  obtain rfl : fp = none := by cases fp with | none => rfl | some z => simp at h1b
  have hfn := hfr.none rfl
  refine c_skip ?_
  refine q_then ?_
  refine c_seq ?_
  refine c_block ?_
  refine c_loop (α := Nat × (Option Int) × (Option Addr) × (List ItA) × (List Res)) (fun z => [(0, .pointer (some ⟨b, 0, none⟩)), (1, .pointer z.2.2.1), (2, y), (7, .int .i64 (z.1 : Int))]) (fun z => blk b (.cells #[.slice q.a (q.items).length q.c, .slice q.ak ((q.kids.map Prod.fst)).length q.ck] 130 (0, 0)) :: row e_ItA.T e_ItA.sz q.a (q.items).length q.c (flat e_ItA q.items) :: row eN126.T eN126.sz q.ak ((q.kids.map Prod.fst)).length q.ck (flat eN126 (q.kids.map Prod.fst)) :: kidsR e_ItA eN126 130 d q.kids :: (G ++ z.2.2.2.2)) (fun z => z.1 ≤ q.items.length + 1 ∧ FromOk (fun k : Int => Value.int .i64 k) 3 G z.2.1 z.2.2.1 ∧ I z.2.2.2.1 z.2.2.2.2 ∧ z.2.2.2.1 ++ restW ItA.f_key ilt (q.kids.map Prod.snd) q.items z.1 z.2.1 = pre ++ sel ItA.f_key ilt fr xs) (fun z => q.items.length + 1 - z.1) (0, none, none, pre, L0) (by exact ⟨Nat.zero_le _, .inl ⟨rfl, rfl⟩, hI0, by rw [hfn, hxs, rest_0]; rfl⟩) ⟨(by first | rfl | exact vint (by omega)), (by first | rfl | exact vint (by omega)), (by first | rfl | exact vint (by omega)), (by first | rfl | exact vint (by omega)), trivial⟩ (fun w S => S) ?_
  rintro ⟨i, fo, fp2, pre2, Lc⟩ ⟨hi, hfo, hI, hpre⟩
  try dsimp only at *
  refine c_seq ?_
  refine c_seq ?_
  refine c_region ?_
  refine o_move rfl rfl ?_
  refine o_move rfl rfl ?_
  refine o_nil rfl rfl ?_
  refine o_fieldAddr (q := ⟨b, 0, none⟩) rfl rfl Try.underlying130 rfl ti127 rfl ?_
  refine o_load1 rfl rfl Try.underlying127 rfl (rd_mem 0 rfl rfl) ?_
  refine o_len rfl rfl Try.underlying127 ?_
  refine o_bin rfl rfl rfl b_leq ?_
  refine l_nil ?_
  refine q_then ?_
  refine c_cond rfl (fun h7 => ?_) (fun h7 => ?_)
  · -- h7T
   have h7b := h7
   try simp only [decide_eq_true_eq] at h7
   refine c_skip ?_
   refine q_then ?_
   refine c_seq ?_
   refine c_block ?_
   refine c_seq ?_
   refine c_seq ?_
   refine c_region ?_
   refine o_move rfl rfl ?_
   refine o_move rfl rfl ?_
   refine o_nil rfl rfl ?_
   refine o_fieldAddr (q := ⟨b, 1, none⟩) rfl rfl Try.underlying130 rfl ti128 rfl ?_
   refine o_load1 rfl rfl Try.underlying128 rfl (rd_mem 0 rfl rfl) ?_
   refine o_len rfl rfl Try.underlying128 ?_
   refine o_bin rfl rfl rfl b_lss ?_
   refine o_move rfl rfl ?_
   refine l_split (t := 34) rfl (fun h8 => ?_) (fun h8 => ?_)
   · -- h8T
    have h8b := h8
    try simp only [decide_eq_true_eq] at h8
    refine o_yes rfl rfl rfl ?_
    refine o_move rfl rfl ?_
    refine o_yes rfl rfl rfl ?_
    refine o_nil rfl rfl ?_
    refine o_yes rfl rfl rfl ?_
    refine o_fieldAddr (q := ⟨b, 1, none⟩) rfl rfl Try.underlying130 rfl ti128 rfl ?_
    refine o_yes rfl rfl rfl ?_
    refine o_load1 rfl rfl Try.underlying128 rfl (rd_mem 0 rfl rfl) ?_
    refine o_yes rfl rfl rfl ?_
    refine o_move rfl rfl ?_
    refine o_yes rfl rfl rfl ?_
    refine o_index eN126_ok rfl rfl rfl Try.underlying128 (by omega) (by omega) (rds_own eN126_ok 2 rfl) fun ad40 ead40 => ?_
    obtain ⟨x40, hx40⟩ : ∃ x, ((q.kids.map Prod.fst))[((i : Int)).toNat]? = some x := ⟨_, List.getElem?_eq_getElem (by omega)⟩
    refine o_yes rfl rfl rfl ?_
    refine o_load1 rfl rfl Try.underlying126 rfl (rd_sl0 eN126_ok ead40 (rds_own eN126_ok 2 rfl) hx40 rfl) ?_
    obtain ⟨⟨kb2, ys⟩, hkid⟩ : ∃ z, q.kids[i]? = some z := ⟨_, List.getElem?_eq_getElem (by omega)⟩
    have hxk : x40 = kb2 := by have h9 := hx40; rw [show ((i : Int)).toNat = i from rfl, List.getElem?_map, hkid] at h9; exact (Option.some.inj h9).symm
    have hd0 : d ≠ 0 := by rcases hsh with ⟨_, h9⟩ | ⟨h9, _, _⟩; exact absurd (List.getElem?_eq_some_iff.1 hkid).1 (by rw [h9]; simp); exact h9
    obtain ⟨d', hd'⟩ : ∃ d', d = d' + 1 := ⟨d - 1, by omega⟩
    have hsy : Srt ItA.f_key ilt ys := by have h9 := srt; rw [hxs] at h9; exact srt_kid hor (show (q.kids.map Prod.snd)[i]? = some ys by rw [List.getElem?_map, hkid]; rfl) h9
    have hat : atK (q.kids.map Prod.snd) i = ys := by unfold atK; rw [List.getElem?_map, hkid]; rfl
    refine l_f3 ?_
    refine l_conv (L' := nodeR e_ItA eN126 130 d' 2 kb2 ys :: kidsR e_ItA eN126 130 d (q.kids.eraseIdx i) :: _) (fun w S => by have h9 := Sat.kid_take hkid S; rw [hd'] at h9 ⊢; exact h9) ?_
    refine l_eq (t := 41) (v' := .pointer (some ⟨kb2, 0, none⟩)) rfl (by rw [hxk]) ?_
    refine o_yes rfl rfl rfl ?_
    refine o_move rfl rfl ?_
    refine o_yes rfl rfl rfl ?_
    refine o_move rfl rfl ?_
    refine o_yes rfl rfl rfl ?_
    refine o_call rfl cal52 rfl (ih d' hd' (G := [kidsR e_ItA eN126 130 d (q.kids.eraseIdx i), blk b (.cells #[.slice q.a (q.items).length q.c, .slice q.ak ((q.kids.map Prod.fst)).length q.ck] 130 (0, 0)), row e_ItA.T e_ItA.sz q.a (q.items).length q.c (flat e_ItA q.items), row eN126.T eN126.sz q.ak ((q.kids.map Prod.fst)).length q.ck (flat eN126 (q.kids.map Prod.fst))] ++ G) (L0 := Lc) (pre := pre2) (full := full) hsy (hfo.more _) hI (by rw [← hat]; exact (List.IsPrefix.trans (by rw [← hpre]; unfold restW; rw [← List.append_assoc]; exact List.prefix_append _ _) hfull)) hy) ?_
    rintro _ _ ⟨bb44, L44, rfl, hbb44, rfl⟩
    refine l_conv (L' := nodeR e_ItA eN126 130 d' 2 kb2 ys :: kidsR e_ItA eN126 130 d (q.kids.eraseIdx i) :: blk b (.cells #[.slice q.a (q.items).length q.c, .slice q.ak ((q.kids.map Prod.fst)).length q.ck] 130 (0, 0)) :: row e_ItA.T e_ItA.sz q.a (q.items).length q.c (flat e_ItA q.items) :: row eN126.T eN126.sz q.ak ((q.kids.map Prod.fst)).length q.ck (flat eN126 (q.kids.map Prod.fst)) :: (G ++ L44)) (fun w S => S) ?_
    refine l_conv (L' := kidsR e_ItA eN126 130 d q.kids :: _) (fun w S => Sat.kid_back hkid (by rw [hd'] at S ⊢; exact S)) ?_
    refine o_yes rfl rfl rfl ?_
    refine o_not rfl rfl ?_
    refine o_pick_true rfl rfl rfl ?_
    refine l_nil ?_
    refine q_then ?_
    refine c_cond rfl (fun h9 => ?_) (fun h9 => ?_)
    · -- h9T
     have h9b := h9
     try simp only [decide_eq_true_eq, decide_eq_false_iff_not, Bool.not_eq_eq_eq_not, Bool.not_true, Bool.not_false, Bool.not_eq_true', Bool.not_eq_false', Int.not_lt, Int.not_le, Bool.or_eq_true, Bool.and_eq_true] at h9
     refine c_seq ?_
     refine c_region ?_
     refine o_assign rfl rfl ?_
     refine l_nil ?_
     refine q_then ?_
     refine c_ret ?_
     refine q_pass_ret ?_
     refine q_block_ret ?_
     refine q_pass_ret ?_
     refine q_pass_ret ?_
     refine q_block_ret ?_
     refine q_pass_ret ?_
     refine q_conv (fun w S => S.perm p3) ?_
     refine q_conv (fun w S => S.perm p3) ?_
     refine q_conv (fun w S => S.perm p3) ?_
     exact f_ret (r_one rfl rfl) (⟨false, L44, rfl, .inr ⟨rfl, or_no hbb44 (by assumption)⟩, rfl⟩) (fun w S => nodeMk q hq S)
    · -- h9F
     have h9b := h9
     try simp only [decide_eq_true_eq, decide_eq_false_iff_not, Bool.not_eq_eq_eq_not, Bool.not_true, Bool.not_false, Bool.not_eq_true', Bool.not_eq_false', Int.not_lt, Int.not_le, Bool.or_eq_true, Bool.and_eq_true] at h9
     refine c_skip ?_
     refine q_then ?_
     refine c_seq ?_
     have hI9 : I (pre2 ++ sel ItA.f_key ilt fo ys) L44 := or_yes hbb44 (by assumption)
     have hpre9 : (pre2 ++ sel ItA.f_key ilt fo ys) ++ post (q.items.drop i) ((q.kids.map Prod.snd).drop (i + 1)) = pre ++ sel ItA.f_key ilt fr xs := by rw [← hpre]; unfold restW; rw [hat, List.append_assoc]
     refine c_region ?_
     refine o_assign rfl rfl ?_
     refine l_nil ?_
     refine q_then ?_
     refine c_seq ?_
     refine (Classical.em (i < q.items.length)).elim (fun hs9 => ?_) (fun hs9 => ?_)
     · -- hs9 True
      refine c_fact (p := ∃ ad, q.a = some ad) (rds_some (e := e_ItA) (xs := q.items) (rds_own e_ItA_ok 2 rfl) (by intro h0; have h00 := congrArg List.length h0; simp only [List.length_nil] at h00; omega)) ?_
      rintro ⟨ad9, ead9⟩
      refine c_held [kidsR e_ItA eN126 130 d q.kids, blk b (.cells #[.slice q.a (q.items).length q.c, .slice q.ak ((q.kids.map Prod.fst)).length q.ck] 130 (0, 0)), row e_ItA.T e_ItA.sz q.a (q.items).length q.c (flat e_ItA q.items), row eN126.T eN126.sz q.ak ((q.kids.map Prod.fst)).length q.ck (flat eN126 (q.kids.map Prod.fst))] (by kernel_rfl) rfl ?_
      refine h_take 0 rfl rfl (by kernel_rfl) (by kernel_rfl) (by kernel_rfl) (fun L0 => v_move rfl rfl) ?_
      refine h_take 1 rfl rfl (by kernel_rfl) (by kernel_rfl) (by kernel_rfl) (fun L0 => v_move rfl rfl) ?_
      refine h_take 2 rfl rfl (by kernel_rfl) (by kernel_rfl) (by kernel_rfl) (fun L0 => v_nil rfl rfl) ?_
      refine h_take 3 rfl rfl (by kernel_rfl) (by kernel_rfl) (by kernel_rfl) (fun L0 => v_fieldAddr (q := ⟨b, 0, none⟩) rfl rfl Try.underlying130 rfl ti127 rfl) ?_
      refine h_take 4 rfl rfl (by kernel_rfl) (by kernel_rfl) (by kernel_rfl) (fun L0 => v_load1 rfl rfl Try.underlying127 rfl (rd_mem 1 rfl rfl)) ?_
      refine h_take 5 rfl rfl (by kernel_rfl) (by kernel_rfl) (by kernel_rfl) (fun L0 => v_len rfl rfl Try.underlying127) ?_
      refine h_take 6 rfl rfl (by kernel_rfl) (by kernel_rfl) (by kernel_rfl) (fun L0 => v_bin rfl rfl rfl b_lss) ?_
      refine h_eq (t := 53) (v' := .bool true) rfl (show _ = Value.bool true from by rw [decide_eq_true (by omega)]) ?_
      refine h_take 7 rfl rfl (by kernel_rfl) (by kernel_rfl) (by kernel_rfl) (fun L0 => v_move rfl rfl) ?_
      refine h_take_yes 8 rfl rfl rfl rfl rfl (by kernel_rfl) (by kernel_rfl) (by kernel_rfl) (fun L0 => v_move rfl rfl) ?_
      refine h_take_yes 9 rfl rfl rfl rfl rfl (by kernel_rfl) (by kernel_rfl) (by kernel_rfl) (fun L0 => v_move rfl rfl) ?_
      refine h_take_yes 10 rfl rfl rfl rfl rfl (by kernel_rfl) (by kernel_rfl) (by kernel_rfl) (fun L0 => v_nil rfl rfl) ?_
      refine h_take_yes 11 rfl rfl rfl rfl rfl (by kernel_rfl) (by kernel_rfl) (by kernel_rfl) (fun L0 => v_fieldAddr (q := ⟨b, 0, none⟩) rfl rfl Try.underlying130 rfl ti127 rfl) ?_
      refine h_take_yes 12 rfl rfl rfl rfl rfl (by kernel_rfl) (by kernel_rfl) (by kernel_rfl) (fun L0 => v_load1 rfl rfl Try.underlying127 rfl (rd_mem 1 rfl rfl)) ?_
      refine h_take_yes 13 rfl rfl rfl rfl rfl (by kernel_rfl) (by kernel_rfl) (by kernel_rfl) (fun L0 => v_move rfl rfl) ?_
      refine h_take_yes 14 rfl rfl rfl rfl rfl (by kernel_rfl) (by kernel_rfl) (by kernel_rfl) (fun L0 => v_indexK e_ItA_ok ead9 rfl rfl rfl Try.underlying127 (by omega) (by omega)) ?_
      obtain ⟨x61, hx61⟩ : ∃ x, (q.items)[((i : Int)).toNat]? = some x := ⟨_, List.getElem?_eq_getElem (by omega)⟩
      have hx61' : q.items[i]? = some x61 := hx61
      refine h_take_yes 15 rfl rfl rfl rfl rfl (by kernel_rfl) (by kernel_rfl) (by kernel_rfl) (fun L0 => v_fieldAddr rfl rfl Try.underlying139 rfl ti3 (Addr.add_add' _ _ _)) ?_
      refine h_take_yes 16 rfl rfl rfl rfl rfl (by kernel_rfl) (by kernel_rfl) (by kernel_rfl) (fun L0 => v_load1 rfl rfl Try.underlying3 rfl (rd_sl e_ItA_ok ead9 (rds_own e_ItA_ok 2 rfl) hx61 rfl)) ?_
      refine h_take_yes 17 rfl rfl rfl rfl rfl (by kernel_rfl) (by kernel_rfl) (by kernel_rfl) (fun L0 => v_move rfl rfl) ?_
      refine h_take_yes 18 rfl rfl rfl rfl rfl (by kernel_rfl) (by kernel_rfl) (by kernel_rfl) (fun L0 => v_nil rfl rfl) ?_
      refine h_take_yes 19 rfl rfl rfl rfl rfl (by kernel_rfl) (by kernel_rfl) (by kernel_rfl) (fun L0 => v_fieldAddr (q := ⟨b, 0, none⟩) rfl rfl Try.underlying130 rfl ti127 rfl) ?_
      refine h_take_yes 20 rfl rfl rfl rfl rfl (by kernel_rfl) (by kernel_rfl) (by kernel_rfl) (fun L0 => v_load1 rfl rfl Try.underlying127 rfl (rd_mem 1 rfl rfl)) ?_
      refine h_take_yes 21 rfl rfl rfl rfl rfl (by kernel_rfl) (by kernel_rfl) (by kernel_rfl) (fun L0 => v_move rfl rfl) ?_
      refine h_take_yes 22 rfl rfl rfl rfl rfl (by kernel_rfl) (by kernel_rfl) (by kernel_rfl) (fun L0 => v_indexK e_ItA_ok ead9 rfl rfl rfl Try.underlying127 (by omega) (by omega)) ?_
      obtain ⟨x69, hx69⟩ : ∃ x, (q.items)[((i : Int)).toNat]? = some x := ⟨_, List.getElem?_eq_getElem (by omega)⟩
      have e69 : x69 = x61 := by rw [hx61] at hx69; exact (Option.some.inj hx69).symm
      refine h_take_yes 23 rfl rfl rfl rfl rfl (by kernel_rfl) (by kernel_rfl) (by kernel_rfl) (fun L0 => v_fieldAddr rfl rfl Try.underlying139 rfl ti40 (Addr.add_add' _ _ _)) ?_
      refine h_take_yes 24 rfl rfl rfl rfl rfl (by kernel_rfl) (by kernel_rfl) (by kernel_rfl) (fun L0 => v_loadn (vs := [.int .i64 x69.f_value.Slot, .int .u64 x69.f_value.Ballot, .string x69.f_value.Value]) rfl rfl Try.underlying40 rfl ti40 (rdn_slo (n := 3) e_ItA_ok ead9 (rds_own e_ItA_ok 2 rfl) hx69 rfl)) ?_
      refine h_eq (t := 71) (v' := .agg #[.int .i64 x61.f_value.Slot, .int .u64 x61.f_value.Ballot, .string x61.f_value.Value]) rfl (by rw [e69]) ?_
      refine h_one 25 rfl (by kernel_rfl) ?_
      refine o_yes rfl rfl rfl ?_
      refine l_conv (L' := ([kidsR e_ItA eN126 130 d q.kids, blk b (.cells #[.slice q.a (q.items).length q.c, .slice q.ak ((q.kids.map Prod.fst)).length q.ck] 130 (0, 0)), row e_ItA.T e_ItA.sz q.a (q.items).length q.c (flat e_ItA q.items), row eN126.T eN126.sz q.ak ((q.kids.map Prod.fst)).length q.ck (flat eN126 (q.kids.map Prod.fst))] ++ G) ++ L44) (fun w S => S) ?_
      refine o_callV rfl rfl rfl (hy ([kidsR e_ItA eN126 130 d q.kids, blk b (.cells #[.slice q.a (q.items).length q.c, .slice q.ak ((q.kids.map Prod.fst)).length q.ck] 130 (0, 0)), row e_ItA.T e_ItA.sz q.a (q.items).length q.c (flat e_ItA q.items), row eN126.T eN126.sz q.ak ((q.kids.map Prod.fst)).length q.ck (flat eN126 (q.kids.map Prod.fst))] ++ G) (pre2 ++ sel ItA.f_key ilt fo ys) x61 L44 hI9 (List.IsPrefix.trans (by rw [← hpre9]; rw [rest_item (key := ItA.f_key) (lt := ilt) hor hx61']; exact prefix_snoc) hfull)) ?_
      rintro _ _ ⟨bb72, L72, rfl, hbb72, rfl⟩
      refine l_conv (L' := kidsR e_ItA eN126 130 d q.kids :: blk b (.cells #[.slice q.a (q.items).length q.c, .slice q.ak ((q.kids.map Prod.fst)).length q.ck] 130 (0, 0)) :: row e_ItA.T e_ItA.sz q.a (q.items).length q.c (flat e_ItA q.items) :: row eN126.T eN126.sz q.ak ((q.kids.map Prod.fst)).length q.ck (flat eN126 (q.kids.map Prod.fst)) :: (G ++ L72)) (fun w S => S) ?_
      refine l_nil ?_
      refine h_next ?_
      refine h_take_yes 26 rfl rfl rfl rfl rfl (by kernel_rfl) (by kernel_rfl) (by kernel_rfl) (fun L0 => v_not rfl rfl) ?_
      refine h_take 27 rfl rfl (by kernel_rfl) (by kernel_rfl) (by kernel_rfl) (fun L0 => v_pick_true rfl rfl rfl) ?_
      refine h_done (by kernel_rfl) ?_
      refine q_then ?_
      refine c_cond rfl (fun h10 => ?_) (fun h10 => ?_)
      · -- h10T
       have h10b := h10
       try simp only [decide_eq_true_eq, decide_eq_false_iff_not, Bool.not_eq_eq_eq_not, Bool.not_true, Bool.not_false, Bool.not_eq_true', Bool.not_eq_false', Int.not_lt, Int.not_le, Bool.or_eq_true, Bool.and_eq_true] at h10
       refine c_seq ?_
       refine c_region ?_
       refine o_assign rfl rfl ?_
       refine l_nil ?_
       refine q_then ?_
       refine c_ret ?_
       refine q_block_ret ?_
       refine q_pass_ret ?_
       refine q_pass_ret ?_
       refine q_block_ret ?_
       refine q_pass_ret ?_
       refine q_conv (fun w S => S.perm p3) ?_
       refine q_conv (fun w S => S.perm p3) ?_
       refine q_conv (fun w S => S.perm p3) ?_
       exact f_ret (r_one rfl rfl) (⟨false, L72, rfl, .inr ⟨rfl, or_no hbb72 (by assumption)⟩, rfl⟩) (fun w S => nodeMk q hq S)
      · -- h10F
       have h10b := h10
       try simp only [decide_eq_true_eq, decide_eq_false_iff_not, Bool.not_eq_eq_eq_not, Bool.not_true, Bool.not_false, Bool.not_eq_true', Bool.not_eq_false', Int.not_lt, Int.not_le, Bool.or_eq_true, Bool.and_eq_true] at h10
       refine c_skip ?_
       refine q_block ?_
       refine q_then ?_
       refine c_region ?_
       refine o_move rfl rfl ?_
       refine o_bin rfl rfl rfl (b_add (wrap_i64 (by omega) (by omega))) ?_
       refine o_assign rfl rfl ?_
       refine l_nil ?_
       refine q_conv (fun w S => S.perm p3) ?_
       refine q_conv (fun w S => S.perm p3) ?_
       refine q_conv (fun w S => S.perm p3) ?_
       exact q_round (i + 1, none, none, ((pre2 ++ sel ItA.f_key ilt fo ys) ++ [x61]), L72) (by exact ⟨by omega, .inl ⟨rfl, rfl⟩, or_yes hbb72 (by assumption), by rw [← hpre9, rest_item (key := ItA.f_key) (lt := ilt) hor hx61', List.append_assoc]; rfl⟩) (by (try dsimp only); omega) ⟨(by first | rfl | exact vint (by omega)), (by first | rfl | exact vint (by omega)), (by first | rfl | exact vint (by omega)), (by first | rfl | exact vint (by omega)), trivial⟩ (fun w S => S)
     · -- hs9 False
      refine c_held [kidsR e_ItA eN126 130 d q.kids, blk b (.cells #[.slice q.a (q.items).length q.c, .slice q.ak ((q.kids.map Prod.fst)).length q.ck] 130 (0, 0)), row e_ItA.T e_ItA.sz q.a (q.items).length q.c (flat e_ItA q.items), row eN126.T eN126.sz q.ak ((q.kids.map Prod.fst)).length q.ck (flat eN126 (q.kids.map Prod.fst))] (by kernel_rfl) rfl ?_
      refine h_take 0 rfl rfl (by kernel_rfl) (by kernel_rfl) (by kernel_rfl) (fun L0 => v_move rfl rfl) ?_
      refine h_take 1 rfl rfl (by kernel_rfl) (by kernel_rfl) (by kernel_rfl) (fun L0 => v_move rfl rfl) ?_
      refine h_take 2 rfl rfl (by kernel_rfl) (by kernel_rfl) (by kernel_rfl) (fun L0 => v_nil rfl rfl) ?_
      refine h_take 3 rfl rfl (by kernel_rfl) (by kernel_rfl) (by kernel_rfl) (fun L0 => v_fieldAddr (q := ⟨b, 0, none⟩) rfl rfl Try.underlying130 rfl ti127 rfl) ?_
      refine h_take 4 rfl rfl (by kernel_rfl) (by kernel_rfl) (by kernel_rfl) (fun L0 => v_load1 rfl rfl Try.underlying127 rfl (rd_mem 1 rfl rfl)) ?_
      refine h_take 5 rfl rfl (by kernel_rfl) (by kernel_rfl) (by kernel_rfl) (fun L0 => v_len rfl rfl Try.underlying127) ?_
      refine h_take 6 rfl rfl (by kernel_rfl) (by kernel_rfl) (by kernel_rfl) (fun L0 => v_bin rfl rfl rfl b_lss) ?_
      refine h_eq (t := 53) (v' := .bool false) rfl (show _ = Value.bool false from by rw [decide_eq_false (by omega)]) ?_
      refine h_take 7 rfl rfl (by kernel_rfl) (by kernel_rfl) (by kernel_rfl) (fun L0 => v_move rfl rfl) ?_
      refine h_take_no 8 rfl rfl rfl rfl rfl (by kernel_rfl) (by kernel_rfl) (by kernel_rfl) ?_
      refine h_take_no 9 rfl rfl rfl rfl rfl (by kernel_rfl) (by kernel_rfl) (by kernel_rfl) ?_
      refine h_take_no 10 rfl rfl rfl rfl rfl (by kernel_rfl) (by kernel_rfl) (by kernel_rfl) ?_
      refine h_take_no 11 rfl rfl rfl rfl rfl (by kernel_rfl) (by kernel_rfl) (by kernel_rfl) ?_
      refine h_take_no 12 rfl rfl rfl rfl rfl (by kernel_rfl) (by kernel_rfl) (by kernel_rfl) ?_
      refine h_take_no 13 rfl rfl rfl rfl rfl (by kernel_rfl) (by kernel_rfl) (by kernel_rfl) ?_
      refine h_take_no 14 rfl rfl rfl rfl rfl (by kernel_rfl) (by kernel_rfl) (by kernel_rfl) ?_
      refine h_take_no 15 rfl rfl rfl rfl rfl (by kernel_rfl) (by kernel_rfl) (by kernel_rfl) ?_
      refine h_take_no 16 rfl rfl rfl rfl rfl (by kernel_rfl) (by kernel_rfl) (by kernel_rfl) ?_
      refine h_take_no 17 rfl rfl rfl rfl rfl (by kernel_rfl) (by kernel_rfl) (by kernel_rfl) ?_
      refine h_take_no 18 rfl rfl rfl rfl rfl (by kernel_rfl) (by kernel_rfl) (by kernel_rfl) ?_
      refine h_take_no 19 rfl rfl rfl rfl rfl (by kernel_rfl) (by kernel_rfl) (by kernel_rfl) ?_
      refine h_take_no 20 rfl rfl rfl rfl rfl (by kernel_rfl) (by kernel_rfl) (by kernel_rfl) ?_
      refine h_take_no 21 rfl rfl rfl rfl rfl (by kernel_rfl) (by kernel_rfl) (by kernel_rfl) ?_
      refine h_take_no 22 rfl rfl rfl rfl rfl (by kernel_rfl) (by kernel_rfl) (by kernel_rfl) ?_
      refine h_take_no 23 rfl rfl rfl rfl rfl (by kernel_rfl) (by kernel_rfl) (by kernel_rfl) ?_
      refine h_take_no 24 rfl rfl rfl rfl rfl (by kernel_rfl) (by kernel_rfl) (by kernel_rfl) ?_
      refine h_take_no 25 rfl rfl rfl rfl rfl (by kernel_rfl) (by kernel_rfl) (by kernel_rfl) ?_
      refine h_take_no 26 rfl rfl rfl rfl rfl (by kernel_rfl) (by kernel_rfl) (by kernel_rfl) ?_
      refine h_take 27 rfl rfl (by kernel_rfl) (by kernel_rfl) (by kernel_rfl) (fun L0 => v_pick_false rfl rfl rfl) ?_
      refine h_done (by kernel_rfl) ?_
      refine q_then ?_
      refine c_false rfl ?_
      refine c_skip ?_
      refine q_block ?_
      refine q_then ?_
      refine c_region ?_
      refine o_move rfl rfl ?_
      refine o_bin rfl rfl rfl (b_add (wrap_i64 (by omega) (by omega))) ?_
      refine o_assign rfl rfl ?_
      refine l_nil ?_
      refine q_conv (fun w S => S.perm p3) ?_
      refine q_conv (fun w S => S.perm p3) ?_
      refine q_conv (fun w S => S.perm p3) ?_
      exact q_round (i + 1, none, none, (pre2 ++ sel ItA.f_key ilt fo ys), L44) (by exact ⟨by omega, .inl ⟨rfl, rfl⟩, hI9, by rw [← hpre9, rest_end (key := ItA.f_key) (lt := ilt) hor (by omega)]⟩) (by (try dsimp only); omega) ⟨(by first | rfl | exact vint (by omega)), (by first | rfl | exact vint (by omega)), (by first | rfl | exact vint (by omega)), (by first | rfl | exact vint (by omega)), trivial⟩ (fun w S => S)
   · -- h8F
    have h8b := h8
    try simp only [decide_eq_false_iff_not, Int.not_lt, Int.not_le] at h8
    refine o_no rfl rfl rfl rfl ?_
    refine o_no rfl rfl rfl rfl ?_
    refine o_no rfl rfl rfl rfl ?_
    refine o_no rfl rfl rfl rfl ?_
    refine o_no rfl rfl rfl rfl ?_
    refine o_no rfl rfl rfl rfl ?_
    refine o_no rfl rfl rfl rfl ?_
    refine o_no rfl rfl rfl rfl ?_
    refine o_no rfl rfl rfl rfl ?_
    refine o_no rfl rfl rfl rfl ?_
    refine o_no rfl rfl rfl rfl ?_
    refine o_pick_false rfl rfl rfl ?_
    refine l_nil ?_
    refine q_then ?_
    refine c_false rfl ?_
    refine c_skip ?_
    refine q_then ?_
    refine c_seq ?_
    have hat : atK (q.kids.map Prod.snd) i = [] := by unfold atK; rw [List.getElem?_eq_none (by rw [List.length_map]; omega)]; rfl
    have hI9 := hI
    have hpre9 : pre2 ++ post (q.items.drop i) ((q.kids.map Prod.snd).drop (i + 1)) = pre ++ sel ItA.f_key ilt fr xs := by rw [← hpre]; unfold restW; rw [hat, sel_nil, List.nil_append]
    refine c_region ?_
    refine o_assign rfl rfl ?_
    refine l_nil ?_
    refine q_then ?_
    refine c_seq ?_
    refine (Classical.em (i < q.items.length)).elim (fun hs9 => ?_) (fun hs9 => ?_)
    · -- hs9 True
     refine c_fact (p := ∃ ad, q.a = some ad) (rds_some (e := e_ItA) (xs := q.items) (rds_own e_ItA_ok 1 rfl) (by intro h0; have h00 := congrArg List.length h0; simp only [List.length_nil] at h00; omega)) ?_
     rintro ⟨ad9, ead9⟩
     refine c_held [blk b (.cells #[.slice q.a (q.items).length q.c, .slice q.ak ((q.kids.map Prod.fst)).length q.ck] 130 (0, 0)), row e_ItA.T e_ItA.sz q.a (q.items).length q.c (flat e_ItA q.items), row eN126.T eN126.sz q.ak ((q.kids.map Prod.fst)).length q.ck (flat eN126 (q.kids.map Prod.fst)), kidsR e_ItA eN126 130 d q.kids] (by kernel_rfl) rfl ?_
     refine h_take 0 rfl rfl (by kernel_rfl) (by kernel_rfl) (by kernel_rfl) (fun L0 => v_move rfl rfl) ?_
     refine h_take 1 rfl rfl (by kernel_rfl) (by kernel_rfl) (by kernel_rfl) (fun L0 => v_move rfl rfl) ?_
     refine h_take 2 rfl rfl (by kernel_rfl) (by kernel_rfl) (by kernel_rfl) (fun L0 => v_nil rfl rfl) ?_
     refine h_take 3 rfl rfl (by kernel_rfl) (by kernel_rfl) (by kernel_rfl) (fun L0 => v_fieldAddr (q := ⟨b, 0, none⟩) rfl rfl Try.underlying130 rfl ti127 rfl) ?_
     refine h_take 4 rfl rfl (by kernel_rfl) (by kernel_rfl) (by kernel_rfl) (fun L0 => v_load1 rfl rfl Try.underlying127 rfl (rd_mem 0 rfl rfl)) ?_
     refine h_take 5 rfl rfl (by kernel_rfl) (by kernel_rfl) (by kernel_rfl) (fun L0 => v_len rfl rfl Try.underlying127) ?_
     refine h_take 6 rfl rfl (by kernel_rfl) (by kernel_rfl) (by kernel_rfl) (fun L0 => v_bin rfl rfl rfl b_lss) ?_
     refine h_eq (t := 53) (v' := .bool true) rfl (show _ = Value.bool true from by rw [decide_eq_true (by omega)]) ?_
     refine h_take 7 rfl rfl (by kernel_rfl) (by kernel_rfl) (by kernel_rfl) (fun L0 => v_move rfl rfl) ?_
     refine h_take_yes 8 rfl rfl rfl rfl rfl (by kernel_rfl) (by kernel_rfl) (by kernel_rfl) (fun L0 => v_move rfl rfl) ?_
     refine h_take_yes 9 rfl rfl rfl rfl rfl (by kernel_rfl) (by kernel_rfl) (by kernel_rfl) (fun L0 => v_move rfl rfl) ?_
     refine h_take_yes 10 rfl rfl rfl rfl rfl (by kernel_rfl) (by kernel_rfl) (by kernel_rfl) (fun L0 => v_nil rfl rfl) ?_
     refine h_take_yes 11 rfl rfl rfl rfl rfl (by kernel_rfl) (by kernel_rfl) (by kernel_rfl) (fun L0 => v_fieldAddr (q := ⟨b, 0, none⟩) rfl rfl Try.underlying130 rfl ti127 rfl) ?_
     refine h_take_yes 12 rfl rfl rfl rfl rfl (by kernel_rfl) (by kernel_rfl) (by kernel_rfl) (fun L0 => v_load1 rfl rfl Try.underlying127 rfl (rd_mem 0 rfl rfl)) ?_
     refine h_take_yes 13 rfl rfl rfl rfl rfl (by kernel_rfl) (by kernel_rfl) (by kernel_rfl) (fun L0 => v_move rfl rfl) ?_
     refine h_take_yes 14 rfl rfl rfl rfl rfl (by kernel_rfl) (by kernel_rfl) (by kernel_rfl) (fun L0 => v_indexK e_ItA_ok ead9 rfl rfl rfl Try.underlying127 (by omega) (by omega)) ?_
     obtain ⟨x61, hx61⟩ : ∃ x, (q.items)[((i : Int)).toNat]? = some x := ⟨_, List.getElem?_eq_getElem (by omega)⟩
     have hx61' : q.items[i]? = some x61 := hx61
     refine h_take_yes 15 rfl rfl rfl rfl rfl (by kernel_rfl) (by kernel_rfl) (by kernel_rfl) (fun L0 => v_fieldAddr rfl rfl Try.underlying139 rfl ti3 (Addr.add_add' _ _ _)) ?_
     refine h_take_yes 16 rfl rfl rfl rfl rfl (by kernel_rfl) (by kernel_rfl) (by kernel_rfl) (fun L0 => v_load1 rfl rfl Try.underlying3 rfl (rd_sl e_ItA_ok ead9 (rds_own e_ItA_ok 1 rfl) hx61 rfl)) ?_
     refine h_take_yes 17 rfl rfl rfl rfl rfl (by kernel_rfl) (by kernel_rfl) (by kernel_rfl) (fun L0 => v_move rfl rfl) ?_
     refine h_take_yes 18 rfl rfl rfl rfl rfl (by kernel_rfl) (by kernel_rfl) (by kernel_rfl) (fun L0 => v_nil rfl rfl) ?_
     refine h_take_yes 19 rfl rfl rfl rfl rfl (by kernel_rfl) (by kernel_rfl) (by kernel_rfl) (fun L0 => v_fieldAddr (q := ⟨b, 0, none⟩) rfl rfl Try.underlying130 rfl ti127 rfl) ?_
     refine h_take_yes 20 rfl rfl rfl rfl rfl (by kernel_rfl) (by kernel_rfl) (by kernel_rfl) (fun L0 => v_load1 rfl rfl Try.underlying127 rfl (rd_mem 0 rfl rfl)) ?_
     refine h_take_yes 21 rfl rfl rfl rfl rfl (by kernel_rfl) (by kernel_rfl) (by kernel_rfl) (fun L0 => v_move rfl rfl) ?_
     refine h_take_yes 22 rfl rfl rfl rfl rfl (by kernel_rfl) (by kernel_rfl) (by kernel_rfl) (fun L0 => v_indexK e_ItA_ok ead9 rfl rfl rfl Try.underlying127 (by omega) (by omega)) ?_
     obtain ⟨x69, hx69⟩ : ∃ x, (q.items)[((i : Int)).toNat]? = some x := ⟨_, List.getElem?_eq_getElem (by omega)⟩
     have e69 : x69 = x61 := by rw [hx61] at hx69; exact (Option.some.inj hx69).symm
     refine h_take_yes 23 rfl rfl rfl rfl rfl (by kernel_rfl) (by kernel_rfl) (by kernel_rfl) (fun L0 => v_fieldAddr rfl rfl Try.underlying139 rfl ti40 (Addr.add_add' _ _ _)) ?_
     refine h_take_yes 24 rfl rfl rfl rfl rfl (by kernel_rfl) (by kernel_rfl) (by kernel_rfl) (fun L0 => v_loadn (vs := [.int .i64 x69.f_value.Slot, .int .u64 x69.f_value.Ballot, .string x69.f_value.Value]) rfl rfl Try.underlying40 rfl ti40 (rdn_slo (n := 3) e_ItA_ok ead9 (rds_own e_ItA_ok 1 rfl) hx69 rfl)) ?_
     refine h_eq (t := 71) (v' := .agg #[.int .i64 x61.f_value.Slot, .int .u64 x61.f_value.Ballot, .string x61.f_value.Value]) rfl (by rw [e69]) ?_
     refine h_one 25 rfl (by kernel_rfl) ?_
     refine o_yes rfl rfl rfl ?_
     refine l_conv (L' := ([blk b (.cells #[.slice q.a (q.items).length q.c, .slice q.ak ((q.kids.map Prod.fst)).length q.ck] 130 (0, 0)), row e_ItA.T e_ItA.sz q.a (q.items).length q.c (flat e_ItA q.items), row eN126.T eN126.sz q.ak ((q.kids.map Prod.fst)).length q.ck (flat eN126 (q.kids.map Prod.fst)), kidsR e_ItA eN126 130 d q.kids] ++ G) ++ Lc) (fun w S => S) ?_
     refine o_callV rfl rfl rfl (hy ([blk b (.cells #[.slice q.a (q.items).length q.c, .slice q.ak ((q.kids.map Prod.fst)).length q.ck] 130 (0, 0)), row e_ItA.T e_ItA.sz q.a (q.items).length q.c (flat e_ItA q.items), row eN126.T eN126.sz q.ak ((q.kids.map Prod.fst)).length q.ck (flat eN126 (q.kids.map Prod.fst)), kidsR e_ItA eN126 130 d q.kids] ++ G) pre2 x61 Lc hI9 (List.IsPrefix.trans (by rw [← hpre9]; rw [rest_item (key := ItA.f_key) (lt := ilt) hor hx61']; exact prefix_snoc) hfull)) ?_
     rintro _ _ ⟨bb72, L72, rfl, hbb72, rfl⟩
     refine l_conv (L' := blk b (.cells #[.slice q.a (q.items).length q.c, .slice q.ak ((q.kids.map Prod.fst)).length q.ck] 130 (0, 0)) :: row e_ItA.T e_ItA.sz q.a (q.items).length q.c (flat e_ItA q.items) :: row eN126.T eN126.sz q.ak ((q.kids.map Prod.fst)).length q.ck (flat eN126 (q.kids.map Prod.fst)) :: kidsR e_ItA eN126 130 d q.kids :: (G ++ L72)) (fun w S => S) ?_
     refine l_nil ?_
     refine h_next ?_
     refine h_take_yes 26 rfl rfl rfl rfl rfl (by kernel_rfl) (by kernel_rfl) (by kernel_rfl) (fun L0 => v_not rfl rfl) ?_
     refine h_take 27 rfl rfl (by kernel_rfl) (by kernel_rfl) (by kernel_rfl) (fun L0 => v_pick_true rfl rfl rfl) ?_
     refine h_done (by kernel_rfl) ?_
     refine q_then ?_
     refine c_cond rfl (fun h11 => ?_) (fun h11 => ?_)
     · -- h11T
      have h11b := h11
      try simp only [decide_eq_true_eq, decide_eq_false_iff_not, Bool.not_eq_eq_eq_not, Bool.not_true, Bool.not_false, Bool.not_eq_true', Bool.not_eq_false', Int.not_lt, Int.not_le, Bool.or_eq_true, Bool.and_eq_true] at h11
      refine c_seq ?_
      refine c_region ?_
      refine o_assign rfl rfl ?_
      refine l_nil ?_
      refine q_then ?_
      refine c_ret ?_
      refine q_block_ret ?_
      refine q_pass_ret ?_
      refine q_pass_ret ?_
      refine q_block_ret ?_
      refine q_pass_ret ?_
      exact f_ret (r_one rfl rfl) (⟨false, L72, rfl, .inr ⟨rfl, or_no hbb72 (by assumption)⟩, rfl⟩) (fun w S => nodeMk q hq S)
     · -- h11F
      have h11b := h11
      try simp only [decide_eq_true_eq, decide_eq_false_iff_not, Bool.not_eq_eq_eq_not, Bool.not_true, Bool.not_false, Bool.not_eq_true', Bool.not_eq_false', Int.not_lt, Int.not_le, Bool.or_eq_true, Bool.and_eq_true] at h11
      refine c_skip ?_
      refine q_block ?_
      refine q_then ?_
      refine c_region ?_
      refine o_move rfl rfl ?_
      refine o_bin rfl rfl rfl (b_add (wrap_i64 (by omega) (by omega))) ?_
      refine o_assign rfl rfl ?_
      refine l_nil ?_
      exact q_round (i + 1, none, none, (pre2 ++ [x61]), L72) (by exact ⟨by omega, .inl ⟨rfl, rfl⟩, or_yes hbb72 (by assumption), by rw [← hpre9, rest_item (key := ItA.f_key) (lt := ilt) hor hx61', List.append_assoc]; rfl⟩) (by (try dsimp only); omega) ⟨(by first | rfl | exact vint (by omega)), (by first | rfl | exact vint (by omega)), (by first | rfl | exact vint (by omega)), (by first | rfl | exact vint (by omega)), trivial⟩ (fun w S => S)
    · -- hs9 False
     refine c_held [blk b (.cells #[.slice q.a (q.items).length q.c, .slice q.ak ((q.kids.map Prod.fst)).length q.ck] 130 (0, 0)), row e_ItA.T e_ItA.sz q.a (q.items).length q.c (flat e_ItA q.items), row eN126.T eN126.sz q.ak ((q.kids.map Prod.fst)).length q.ck (flat eN126 (q.kids.map Prod.fst)), kidsR e_ItA eN126 130 d q.kids] (by kernel_rfl) rfl ?_
     refine h_take 0 rfl rfl (by kernel_rfl) (by kernel_rfl) (by kernel_rfl) (fun L0 => v_move rfl rfl) ?_
     refine h_take 1 rfl rfl (by kernel_rfl) (by kernel_rfl) (by kernel_rfl) (fun L0 => v_move rfl rfl) ?_
     refine h_take 2 rfl rfl (by kernel_rfl) (by kernel_rfl) (by kernel_rfl) (fun L0 => v_nil rfl rfl) ?_
     refine h_take 3 rfl rfl (by kernel_rfl) (by kernel_rfl) (by kernel_rfl) (fun L0 => v_fieldAddr (q := ⟨b, 0, none⟩) rfl rfl Try.underlying130 rfl ti127 rfl) ?_
     refine h_take 4 rfl rfl (by kernel_rfl) (by kernel_rfl) (by kernel_rfl) (fun L0 => v_load1 rfl rfl Try.underlying127 rfl (rd_mem 0 rfl rfl)) ?_
     refine h_take 5 rfl rfl (by kernel_rfl) (by kernel_rfl) (by kernel_rfl) (fun L0 => v_len rfl rfl Try.underlying127) ?_
     refine h_take 6 rfl rfl (by kernel_rfl) (by kernel_rfl) (by kernel_rfl) (fun L0 => v_bin rfl rfl rfl b_lss) ?_
     refine h_eq (t := 53) (v' := .bool false) rfl (show _ = Value.bool false from by rw [decide_eq_false (by omega)]) ?_
     refine h_take 7 rfl rfl (by kernel_rfl) (by kernel_rfl) (by kernel_rfl) (fun L0 => v_move rfl rfl) ?_
     refine h_take_no 8 rfl rfl rfl rfl rfl (by kernel_rfl) (by kernel_rfl) (by kernel_rfl) ?_
     refine h_take_no 9 rfl rfl rfl rfl rfl (by kernel_rfl) (by kernel_rfl) (by kernel_rfl) ?_
     refine h_take_no 10 rfl rfl rfl rfl rfl (by kernel_rfl) (by kernel_rfl) (by kernel_rfl) ?_
     refine h_take_no 11 rfl rfl rfl rfl rfl (by kernel_rfl) (by kernel_rfl) (by kernel_rfl) ?_
     refine h_take_no 12 rfl rfl rfl rfl rfl (by kernel_rfl) (by kernel_rfl) (by kernel_rfl) ?_
     refine h_take_no 13 rfl rfl rfl rfl rfl (by kernel_rfl) (by kernel_rfl) (by kernel_rfl) ?_
     refine h_take_no 14 rfl rfl rfl rfl rfl (by kernel_rfl) (by kernel_rfl) (by kernel_rfl) ?_
     refine h_take_no 15 rfl rfl rfl rfl rfl (by kernel_rfl) (by kernel_rfl) (by kernel_rfl) ?_
     refine h_take_no 16 rfl rfl rfl rfl rfl (by kernel_rfl) (by kernel_rfl) (by kernel_rfl) ?_
     refine h_take_no 17 rfl rfl rfl rfl rfl (by kernel_rfl) (by kernel_rfl) (by kernel_rfl) ?_
     refine h_take_no 18 rfl rfl rfl rfl rfl (by kernel_rfl) (by kernel_rfl) (by kernel_rfl) ?_
     refine h_take_no 19 rfl rfl rfl rfl rfl (by kernel_rfl) (by kernel_rfl) (by kernel_rfl) ?_
     refine h_take_no 20 rfl rfl rfl rfl rfl (by kernel_rfl) (by kernel_rfl) (by kernel_rfl) ?_
     refine h_take_no 21 rfl rfl rfl rfl rfl (by kernel_rfl) (by kernel_rfl) (by kernel_rfl) ?_
     refine h_take_no 22 rfl rfl rfl rfl rfl (by kernel_rfl) (by kernel_rfl) (by kernel_rfl) ?_
     refine h_take_no 23 rfl rfl rfl rfl rfl (by kernel_rfl) (by kernel_rfl) (by kernel_rfl) ?_
     refine h_take_no 24 rfl rfl rfl rfl rfl (by kernel_rfl) (by kernel_rfl) (by kernel_rfl) ?_
     refine h_take_no 25 rfl rfl rfl rfl rfl (by kernel_rfl) (by kernel_rfl) (by kernel_rfl) ?_
     refine h_take_no 26 rfl rfl rfl rfl rfl (by kernel_rfl) (by kernel_rfl) (by kernel_rfl) ?_
     refine h_take 27 rfl rfl (by kernel_rfl) (by kernel_rfl) (by kernel_rfl) (fun L0 => v_pick_false rfl rfl rfl) ?_
     refine h_done (by kernel_rfl) ?_
     refine q_then ?_
     refine c_false rfl ?_
     refine c_skip ?_
     refine q_block ?_
     refine q_then ?_
     refine c_region ?_
     refine o_move rfl rfl ?_
     refine o_bin rfl rfl rfl (b_add (wrap_i64 (by omega) (by omega))) ?_
     refine o_assign rfl rfl ?_
     refine l_nil ?_
     exact q_round (i + 1, none, none, pre2, Lc) (by exact ⟨by omega, .inl ⟨rfl, rfl⟩, hI9, by rw [← hpre9, rest_end (key := ItA.f_key) (lt := ilt) hor (by omega)]⟩) (by (try dsimp only); omega) ⟨(by first | rfl | exact vint (by omega)), (by first | rfl | exact vint (by omega)), (by first | rfl | exact vint (by omega)), (by first | rfl | exact vint (by omega)), trivial⟩ (fun w S => S)
  · -- h7F
   have h7b := h7
   try simp only [decide_eq_false_iff_not, Int.not_lt, Int.not_le] at h7
   refine c_exit ?_
   refine q_pass_exit ?_
   refine q_pass_exit ?_
   refine q_hit ?_
   refine q_then ?_
   refine c_seq ?_
   refine c_region ?_
   refine o_assign rfl rfl ?_
   refine l_nil ?_
   refine q_then ?_
   refine c_ret ?_
   exact f_ret (r_one rfl rfl) (⟨true, Lc, rfl, .inl ⟨rfl, by rw [← hpre, rest_over hor (by omega), List.append_nil]; exact hI⟩, rfl⟩) (fun w S => nodeMk q hq S)

theorem walk_A : ∀ d, WalkSpec_A d
  | 0 => walk_step_A fun d' h => by omega
  | d + 1 => walk_step_A fun d' h => by obtain rfl : d = d' := (by omega); exact walk_A d
end Go.Proofs.Ytakjmdeckngnlaa
