/- Printed by eng.py out of 13/spec.py. -/
import Derived.Test.YtokphffmbennkaaRefp
import Derived.Test.YtokphffmbennkaaTy
set_option linter.unusedVariables false
set_option linter.unusedSimpArgs false
set_option maxRecDepth 10000
namespace Go.Proofs.Ytokphffmbennkaa
open Go.RowKit
theorem rlearn {W : World} {F : List Res} {k : Nat} {D : List (Int × ByteArray)} {kn : List Bool} {vl : List ByteArray} (ok : RefOk D kn vl) {slot : Int} {v : ByteArray} : CS Try.prog 14 #[.pointer (some ⟨k, 0, none⟩), .int .i64 slot, .string v] W (blk k (.cells (rcs kn vl) 37 (0, 0)) :: F) (fun r L' => ∃ kn' vl', RefOk (lrn D slot v) kn' vl' ∧ r = .bool (fresh D slot) ∧ L' = blk k (.cells (rcs kn' vl') 37 (0, 0)) :: F) := by
  refine f_door (l0 := [(0, .pointer (some ⟨k, 0, none⟩)), (1, .int .i64 slot), (2, .string v)]) Try.func14 Try.ntmps14 rfl rfl rfl ?_
  refine c_seq ?_
  refine c_region ?_
  refine o_assign rfl rfl ?_
  refine l_nil ?_
  refine q_then ?_
  refine c_seq ?_
  refine c_seq ?_
  refine c_region ?_
  refine o_move rfl rfl ?_
  refine o_bin rfl rfl rfl b_lss ?_
  refine o_move rfl rfl ?_
  refine l_split (t := 9) rfl (fun h1 => ?_) (fun h1 => ?_)
  · -- h1T
    try simp only [decide_eq_true_eq, decide_eq_false_iff_not, Bool.not_eq_eq_eq_not, Bool.not_true, Bool.not_false, Bool.not_eq_true', Bool.not_eq_false', Int.not_lt, Int.not_le, Bool.or_eq_true, Bool.and_eq_true] at h1
    have nf : fresh D slot = false := fresh_lt h1
    refine o_no rfl rfl rfl rfl ?_
    refine o_no rfl rfl rfl rfl ?_
    refine o_pick_true rfl rfl rfl ?_
    refine o_move rfl rfl ?_
    refine o_no rfl rfl rfl rfl ?_
    refine o_no rfl rfl rfl rfl ?_
    refine o_no rfl rfl rfl rfl ?_
    refine o_no rfl rfl rfl rfl ?_
    refine o_no rfl rfl rfl rfl ?_
    refine o_no rfl rfl rfl rfl ?_
    refine o_pick_true rfl rfl rfl ?_
    refine l_nil ?_
    refine q_then ?_
    refine c_true rfl ?_
    refine c_seq ?_
    refine c_region ?_
    refine o_assign rfl rfl ?_
    refine l_nil ?_
    refine q_then ?_
    refine c_ret ?_
    refine q_pass_ret ?_
    exact f_ret (r_one rfl rfl) (⟨kn, vl, by rw [lrn_no nf]; exact ok, by rw [nf], rfl⟩) (fun w S => S)
  · -- h1F
    try simp only [decide_eq_true_eq, decide_eq_false_iff_not, Bool.not_eq_eq_eq_not, Bool.not_true, Bool.not_false, Bool.not_eq_true', Bool.not_eq_false', Int.not_lt, Int.not_le, Bool.or_eq_true, Bool.and_eq_true] at h1
    refine o_yes rfl rfl rfl ?_
    refine o_move rfl rfl ?_
    refine o_yes rfl rfl rfl ?_
    refine o_bin rfl rfl rfl b_gtr ?_
    refine o_pick_false rfl rfl rfl ?_
    refine o_move rfl rfl ?_
    refine l_split (t := 13) rfl (fun h2 => ?_) (fun h2 => ?_)
    · -- h2T
      try simp only [decide_eq_true_eq, decide_eq_false_iff_not, Bool.not_eq_eq_eq_not, Bool.not_true, Bool.not_false, Bool.not_eq_true', Bool.not_eq_false', Int.not_lt, Int.not_le, Bool.or_eq_true, Bool.and_eq_true] at h2
      have nf : fresh D slot = false := fresh_ge (by omega)
      refine o_no rfl rfl rfl rfl ?_
      refine o_no rfl rfl rfl rfl ?_
      refine o_no rfl rfl rfl rfl ?_
      refine o_no rfl rfl rfl rfl ?_
      refine o_no rfl rfl rfl rfl ?_
      refine o_no rfl rfl rfl rfl ?_
      refine o_pick_true rfl rfl rfl ?_
      refine l_nil ?_
      refine q_then ?_
      refine c_true rfl ?_
      refine c_seq ?_
      refine c_region ?_
      refine o_assign rfl rfl ?_
      refine l_nil ?_
      refine q_then ?_
      refine c_ret ?_
      refine q_pass_ret ?_
      exact f_ret (r_one rfl rfl) (⟨kn, vl, by rw [lrn_no nf]; exact ok, by rw [nf], rfl⟩) (fun w S => S)
    · -- h2F
      try simp only [decide_eq_true_eq, decide_eq_false_iff_not, Bool.not_eq_eq_eq_not, Bool.not_true, Bool.not_false, Bool.not_eq_true', Bool.not_eq_false', Int.not_lt, Int.not_le, Bool.or_eq_true, Bool.and_eq_true] at h2
      refine o_yes rfl rfl rfl ?_
      refine o_move rfl rfl ?_
      refine o_yes rfl rfl rfl ?_
      refine o_move rfl rfl ?_
      refine o_yes rfl rfl rfl ?_
      refine o_nil rfl rfl ?_
      refine o_yes rfl rfl rfl ?_
      refine o_fieldAddr (q := ⟨k, 0, none⟩) rfl rfl Try.underlying37 rfl ti34 rfl ?_
      refine o_yes rfl rfl rfl ?_
      refine o_indexArr rfl rfl rfl Try.underlying34 ti4 (by omega) (by omega) (Addr.add_mk _ _ _) ?_
      refine o_yes rfl rfl rfl ?_
      refine o_load1 rfl rfl Try.underlying4 rfl (rd_mem 0 rfl (rcs_kn ok.lk (by omega) (by omega))) ?_
      refine o_pick_false rfl rfl rfl ?_
      refine l_nil ?_
      refine q_then ?_
      refine c_cond rfl (fun h3 => ?_) (fun h3 => ?_)
      · -- h3T
        try simp only [decide_eq_true_eq, decide_eq_false_iff_not, Bool.not_eq_eq_eq_not, Bool.not_true, Bool.not_false, Bool.not_eq_true', Bool.not_eq_false', Int.not_lt, Int.not_le, Bool.or_eq_true, Bool.and_eq_true] at h3
        have nf : fresh D slot = false := by rw [fresh_is ok (by omega) (by omega), h3]; rfl
        refine c_seq ?_
        refine c_region ?_
        refine o_assign rfl rfl ?_
        refine l_nil ?_
        refine q_then ?_
        refine c_ret ?_
        refine q_pass_ret ?_
        exact f_ret (r_one rfl rfl) (⟨kn, vl, by rw [lrn_no nf]; exact ok, by rw [nf], rfl⟩) (fun w S => S)
      · -- h3F
        try simp only [decide_eq_true_eq, decide_eq_false_iff_not, Bool.not_eq_eq_eq_not, Bool.not_true, Bool.not_false, Bool.not_eq_true', Bool.not_eq_false', Int.not_lt, Int.not_le, Bool.or_eq_true, Bool.and_eq_true] at h3
        have hf : fresh D slot = true := by rw [fresh_is ok (by omega) (by omega), h3]; rfl
        refine c_skip ?_
        refine q_then ?_
        refine c_seq ?_
        refine c_region ?_
        refine o_move rfl rfl ?_
        refine o_move rfl rfl ?_
        refine o_nil rfl rfl ?_
        refine o_fieldAddr (q := ⟨k, 0, none⟩) rfl rfl Try.underlying37 rfl ti34 rfl ?_
        refine o_indexArr rfl rfl rfl Try.underlying34 ti4 (by omega) (by omega) (Addr.add_mk _ _ _) ?_
        refine o_storeArr rfl rfl rfl ti4 (by rw [rcs_size ok.lk ok.lv]; omega) (rcs_setk ok.lk (by omega) (by omega) _) ?_
        refine l_nil ?_
        refine q_then ?_
        refine c_seq ?_
        refine c_region ?_
        refine o_move rfl rfl ?_
        refine o_move rfl rfl ?_
        refine o_move rfl rfl ?_
        refine o_nil rfl rfl ?_
        refine o_fieldAddr (q := ⟨k, 64, none⟩) rfl rfl Try.underlying37 rfl ti35 rfl ?_
        refine o_indexArr rfl rfl rfl Try.underlying35 ti9 (by omega) (by omega) (Addr.add_mk _ _ _) ?_
        refine o_storeArr rfl rfl rfl ti9 (by rw [rcs_size (by simp [ok.lk]) ok.lv]; omega) (rcs_setv (by simp [ok.lk]) ok.lv (by omega) (by omega) _) ?_
        refine l_nil ?_
        refine q_then ?_
        refine c_seq ?_
        refine c_region ?_
        refine o_assign rfl rfl ?_
        refine l_nil ?_
        refine q_then ?_
        refine c_ret ?_
        exact f_ret (r_one rfl rfl) (⟨_, _, refOk_learn ok hf, by rw [hf], rfl⟩) (fun w S => S)

theorem rget {W : World} {F : List Res} {k : Nat} {D : List (Int × ByteArray)} {kn : List Bool} {vl : List ByteArray} (ok : RefOk D kn vl) (hr : InR D) {slot : Int} : CS Try.prog 18 #[.pointer (some ⟨k, 0, none⟩), .int .i64 slot] W (blk k (.cells (rcs kn vl) 37 (0, 0)) :: F) (fun r L' => r = .tuple #[.string ((mget D slot).getD ByteArray.empty), .bool (mget D slot).isSome] ∧ L' = blk k (.cells (rcs kn vl) 37 (0, 0)) :: F) := by
  refine f_door (l0 := [(0, .pointer (some ⟨k, 0, none⟩)), (1, .int .i64 slot)]) Try.func18 Try.ntmps18 rfl rfl rfl ?_
  refine c_seq ?_
  refine c_region ?_
  refine o_assign rfl rfl ?_
  refine o_assign rfl rfl ?_
  refine l_nil ?_
  refine q_then ?_
  refine c_seq ?_
  refine c_seq ?_
  refine c_region ?_
  refine o_move rfl rfl ?_
  refine o_bin rfl rfl rfl b_lss ?_
  refine o_move rfl rfl ?_
  refine l_split (t := 8) rfl (fun h1 => ?_) (fun h1 => ?_)
  · -- h1T
    try simp only [decide_eq_true_eq, decide_eq_false_iff_not, Bool.not_eq_eq_eq_not, Bool.not_true, Bool.not_false, Bool.not_eq_true', Bool.not_eq_false', Int.not_lt, Int.not_le, Bool.or_eq_true, Bool.and_eq_true] at h1
    refine o_no rfl rfl rfl rfl ?_
    refine o_no rfl rfl rfl rfl ?_
    refine o_pick_true rfl rfl rfl ?_
    refine o_move rfl rfl ?_
    refine o_no rfl rfl rfl rfl ?_
    refine o_no rfl rfl rfl rfl ?_
    refine o_no rfl rfl rfl rfl ?_
    refine o_no rfl rfl rfl rfl ?_
    refine o_no rfl rfl rfl rfl ?_
    refine o_no rfl rfl rfl rfl ?_
    refine o_no rfl rfl rfl rfl ?_
    refine o_pick_true rfl rfl rfl ?_
    refine l_nil ?_
    refine q_then ?_
    refine c_true rfl ?_
    refine c_seq ?_
    refine c_region ?_
    refine o_assign rfl rfl ?_
    refine o_assign rfl rfl ?_
    refine l_nil ?_
    refine q_then ?_
    refine c_ret ?_
    refine q_pass_ret ?_
    exact f_ret (r_two rfl rfl rfl) (⟨by rw [get_out hr (by omega)]; rfl, rfl⟩) (fun w S => S)
  · -- h1F
    try simp only [decide_eq_true_eq, decide_eq_false_iff_not, Bool.not_eq_eq_eq_not, Bool.not_true, Bool.not_false, Bool.not_eq_true', Bool.not_eq_false', Int.not_lt, Int.not_le, Bool.or_eq_true, Bool.and_eq_true] at h1
    refine o_yes rfl rfl rfl ?_
    refine o_move rfl rfl ?_
    refine o_yes rfl rfl rfl ?_
    refine o_bin rfl rfl rfl b_gtr ?_
    refine o_pick_false rfl rfl rfl ?_
    refine o_move rfl rfl ?_
    refine l_split (t := 12) rfl (fun h2 => ?_) (fun h2 => ?_)
    · -- h2T
      try simp only [decide_eq_true_eq, decide_eq_false_iff_not, Bool.not_eq_eq_eq_not, Bool.not_true, Bool.not_false, Bool.not_eq_true', Bool.not_eq_false', Int.not_lt, Int.not_le, Bool.or_eq_true, Bool.and_eq_true] at h2
      refine o_no rfl rfl rfl rfl ?_
      refine o_no rfl rfl rfl rfl ?_
      refine o_no rfl rfl rfl rfl ?_
      refine o_no rfl rfl rfl rfl ?_
      refine o_no rfl rfl rfl rfl ?_
      refine o_no rfl rfl rfl rfl ?_
      refine o_no rfl rfl rfl rfl ?_
      refine o_pick_true rfl rfl rfl ?_
      refine l_nil ?_
      refine q_then ?_
      refine c_true rfl ?_
      refine c_seq ?_
      refine c_region ?_
      refine o_assign rfl rfl ?_
      refine o_assign rfl rfl ?_
      refine l_nil ?_
      refine q_then ?_
      refine c_ret ?_
      refine q_pass_ret ?_
      exact f_ret (r_two rfl rfl rfl) (⟨by rw [get_out hr (by omega)]; rfl, rfl⟩) (fun w S => S)
    · -- h2F
      try simp only [decide_eq_true_eq, decide_eq_false_iff_not, Bool.not_eq_eq_eq_not, Bool.not_true, Bool.not_false, Bool.not_eq_true', Bool.not_eq_false', Int.not_lt, Int.not_le, Bool.or_eq_true, Bool.and_eq_true] at h2
      refine o_yes rfl rfl rfl ?_
      refine o_move rfl rfl ?_
      refine o_yes rfl rfl rfl ?_
      refine o_move rfl rfl ?_
      refine o_yes rfl rfl rfl ?_
      refine o_nil rfl rfl ?_
      refine o_yes rfl rfl rfl ?_
      refine o_fieldAddr (q := ⟨k, 0, none⟩) rfl rfl Try.underlying37 rfl ti34 rfl ?_
      refine o_yes rfl rfl rfl ?_
      refine o_indexArr rfl rfl rfl Try.underlying34 ti4 (by omega) (by omega) (Addr.add_mk _ _ _) ?_
      refine o_yes rfl rfl rfl ?_
      refine o_load1 rfl rfl Try.underlying4 rfl (rd_mem 0 rfl (rcs_kn ok.lk (by omega) (by omega))) ?_
      refine o_yes rfl rfl rfl ?_
      refine o_not rfl rfl ?_
      refine o_pick_false rfl rfl rfl ?_
      refine l_nil ?_
      refine q_then ?_
      refine c_cond rfl (fun h3 => ?_) (fun h3 => ?_)
      · -- h3T
        try simp only [decide_eq_true_eq, decide_eq_false_iff_not, Bool.not_eq_eq_eq_not, Bool.not_true, Bool.not_false, Bool.not_eq_true', Bool.not_eq_false', Int.not_lt, Int.not_le, Bool.or_eq_true, Bool.and_eq_true] at h3
        refine c_seq ?_
        refine c_region ?_
        refine o_assign rfl rfl ?_
        refine o_assign rfl rfl ?_
        refine l_nil ?_
        refine q_then ?_
        refine c_ret ?_
        refine q_pass_ret ?_
        exact f_ret (r_two rfl rfl rfl) (⟨(by rw [refOk_is ok (by omega) (by omega)] at h3; have hm : mget D slot = none := (by simpa using h3); rw [hm]; rfl), rfl⟩) (fun w S => S)
      · -- h3F
        try simp only [decide_eq_true_eq, decide_eq_false_iff_not, Bool.not_eq_eq_eq_not, Bool.not_true, Bool.not_false, Bool.not_eq_true', Bool.not_eq_false', Int.not_lt, Int.not_le, Bool.or_eq_true, Bool.and_eq_true] at h3
        refine c_skip ?_
        refine q_then ?_
        refine c_seq ?_
        refine c_region ?_
        refine o_move rfl rfl ?_
        refine o_move rfl rfl ?_
        refine o_nil rfl rfl ?_
        refine o_fieldAddr (q := ⟨k, 64, none⟩) rfl rfl Try.underlying37 rfl ti35 rfl ?_
        refine o_indexArr rfl rfl rfl Try.underlying35 ti9 (by omega) (by omega) (Addr.add_mk _ _ _) ?_
        refine o_load1 rfl rfl Try.underlying9 rfl (rd_mem 0 rfl (rcs_vl ok.lk ok.lv (by omega) (by omega))) ?_
        refine o_assign rfl rfl ?_
        refine o_assign rfl rfl ?_
        refine l_nil ?_
        refine q_then ?_
        refine c_ret ?_
        exact f_ret (r_two rfl rfl rfl) (⟨(by rw [refOk_is ok (by omega) (by omega)] at h3; obtain ⟨u, hu⟩ := Option.isSome_iff_exists.1 h3; rw [hu, refOk_val ok (by omega) (by omega) hu]; rfl), rfl⟩) (fun w S => S)

theorem rlen {W : World} {F : List Res} {k : Nat} {D : List (Int × ByteArray)} {kn : List Bool} {vl : List ByteArray} (ok : RefOk D kn vl) {wh : Nat} (co : ChOk D wh) : CS Try.prog 16 #[.pointer (some ⟨k, 0, none⟩)] W (blk k (.cells (rcs kn vl) 37 (0, 0)) :: F) (fun r L' => r = .int .i64 (wh : Int) ∧ L' = blk k (.cells (rcs kn vl) 37 (0, 0)) :: F) := by
  refine f_door (l0 := [(0, .pointer (some ⟨k, 0, none⟩))]) Try.func16 Try.ntmps16 rfl rfl rfl ?_
  refine c_seq ?_
  refine c_region ?_
  refine o_assign rfl rfl ?_
  refine l_nil ?_
  refine q_then ?_
  refine c_seq ?_
  refine c_region ?_
  refine o_assign rfl rfl ?_
  refine l_nil ?_
  refine q_then ?_
  refine c_seq ?_
  refine c_block ?_
  refine c_loop (α := Nat) (fun z => [(0, .pointer (some ⟨k, 0, none⟩)), (3, .int .i64 (z : Int))]) (fun z => blk k (.cells (rcs kn vl) 37 (0, 0)) :: F) (fun z => ∀ j : Nat, j < z → mget D (j : Int) ≠ none) (fun z => 64 - z) (0) (by exact fun j hj => absurd hj (by omega)) ⟨(by first | rfl | exact vint (by omega)), (by first | rfl | exact vint (by omega)), trivial⟩ (fun w S => S) ?_
  rintro u hu
  try dsimp only at *
  refine c_seq ?_
  refine c_seq ?_
  refine c_region ?_
  refine o_move rfl rfl ?_
  refine o_bin rfl rfl rfl b_lss ?_
  refine o_move rfl rfl ?_
  refine l_split (t := 6) rfl (fun h1 => ?_) (fun h1 => ?_)
  · -- h1T
    try simp only [decide_eq_true_eq, decide_eq_false_iff_not, Bool.not_eq_eq_eq_not, Bool.not_true, Bool.not_false, Bool.not_eq_true', Bool.not_eq_false', Int.not_lt, Int.not_le, Bool.or_eq_true, Bool.and_eq_true] at h1
    refine o_yes rfl rfl rfl ?_
    refine o_move rfl rfl ?_
    refine o_yes rfl rfl rfl ?_
    refine o_move rfl rfl ?_
    refine o_yes rfl rfl rfl ?_
    refine o_nil rfl rfl ?_
    refine o_yes rfl rfl rfl ?_
    refine o_fieldAddr (q := ⟨k, 0, none⟩) rfl rfl Try.underlying37 rfl ti34 rfl ?_
    refine o_yes rfl rfl rfl ?_
    refine o_indexArr rfl rfl rfl Try.underlying34 ti4 (by omega) (by omega) (Addr.add_mk _ _ _) ?_
    refine o_yes rfl rfl rfl ?_
    refine o_load1 rfl rfl Try.underlying4 rfl (rd_mem 0 rfl (rcs_kn ok.lk (by omega) (by omega))) ?_
    refine o_pick_true rfl rfl rfl ?_
    refine l_nil ?_
    refine q_then ?_
    refine c_cond rfl (fun h2 => ?_) (fun h2 => ?_)
    · -- h2T
      try simp only [decide_eq_true_eq, decide_eq_false_iff_not, Bool.not_eq_eq_eq_not, Bool.not_true, Bool.not_false, Bool.not_eq_true', Bool.not_eq_false', Int.not_lt, Int.not_le, Bool.or_eq_true, Bool.and_eq_true] at h2
      rw [refOk_is ok (by omega) (by omega)] at h2
      have hlt : u < wh := len_lt co hu h2
      refine c_skip ?_
      refine q_then ?_
      refine c_block ?_
      refine c_region ?_
      refine o_move rfl rfl ?_
      refine o_bin rfl rfl rfl (b_add (wrap_i64 (by omega) (by omega))) ?_
      refine o_assign rfl rfl ?_
      refine l_nil ?_
      refine q_block ?_
      exact q_round (u + 1) (by exact fun j hj => co.all j (by omega)) (by (try dsimp only); have := chOk_le co; omega) ⟨(by first | rfl | exact vint (by omega)), (by first | rfl | exact vint (by omega)), trivial⟩ (fun w S => S)
    · -- h2F
      try simp only [decide_eq_true_eq, decide_eq_false_iff_not, Bool.not_eq_eq_eq_not, Bool.not_true, Bool.not_false, Bool.not_eq_true', Bool.not_eq_false', Int.not_lt, Int.not_le, Bool.or_eq_true, Bool.and_eq_true] at h2
      rw [refOk_is ok (by omega) (by omega)] at h2
      have hend : u = wh := (chOk_wh co u hu (by simpa using h2)).symm
      refine c_exit ?_
      refine q_pass_exit ?_
      refine q_pass_exit ?_
      refine q_hit ?_
      refine q_then ?_
      refine c_seq ?_
      refine c_region ?_
      refine o_move rfl rfl ?_
      refine o_assign rfl rfl ?_
      refine l_nil ?_
      refine q_then ?_
      refine c_ret ?_
      exact f_ret (r_one rfl rfl) (⟨by rw [hend], rfl⟩) (fun w S => S)
  · -- h1F
    try simp only [decide_eq_true_eq, decide_eq_false_iff_not, Bool.not_eq_eq_eq_not, Bool.not_true, Bool.not_false, Bool.not_eq_true', Bool.not_eq_false', Int.not_lt, Int.not_le, Bool.or_eq_true, Bool.and_eq_true] at h1
    have hend : u = wh := by have := chOk_le co; have := len_le co hu; omega
    refine o_no rfl rfl rfl rfl ?_
    refine o_no rfl rfl rfl rfl ?_
    refine o_no rfl rfl rfl rfl ?_
    refine o_no rfl rfl rfl rfl ?_
    refine o_no rfl rfl rfl rfl ?_
    refine o_no rfl rfl rfl rfl ?_
    refine o_pick_false rfl rfl rfl ?_
    refine l_nil ?_
    refine q_then ?_
    refine c_false rfl ?_
    refine c_exit ?_
    refine q_pass_exit ?_
    refine q_pass_exit ?_
    refine q_hit ?_
    refine q_then ?_
    refine c_seq ?_
    refine c_region ?_
    refine o_move rfl rfl ?_
    refine o_assign rfl rfl ?_
    refine l_nil ?_
    refine q_then ?_
    refine c_ret ?_
    exact f_ret (r_one rfl rfl) (⟨by rw [hend], rfl⟩) (fun w S => S)

theorem rfrom {W : World} {F : List Res} {k : Nat} {D : List (Int × ByteArray)} {kn : List Bool} {vl : List ByteArray} (ok : RefOk D kn vl) (hr : InR D) {slot most : Int} : CS Try.prog 20 #[.pointer (some ⟨k, 0, none⟩), .int .i64 slot, .int .i64 most] W (blk k (.cells (rcs kn vl) 37 (0, 0)) :: F) (fun r L' => ∃ (xs : List ByteArray) (a : Option Addr) (c : Nat), xs = fromL D slot most.toNat ∧ r = .slice a xs.length c ∧ L' = row eS.T eS.sz a (xs).length c (flat eS xs) :: blk k (.cells (rcs kn vl) 37 (0, 0)) :: F) := by
  refine f_door (l0 := [(0, .pointer (some ⟨k, 0, none⟩)), (1, .int .i64 slot), (2, .int .i64 most)]) Try.func20 Try.ntmps20 rfl rfl rfl ?_
  refine c_seq ?_
  refine c_region ?_
  refine o_assign rfl rfl ?_
  refine l_nil ?_
  refine q_then ?_
  refine c_seq ?_
  refine c_region ?_
  refine o_lit eS_ok rfl Try.underlying43 rfl rfl rfl (lit_ok rfl) ([] : List ByteArray) rfl rfl fun a9 => ?_
  refine o_assign rfl rfl ?_
  refine l_nil ?_
  refine q_then ?_
  refine c_seq ?_
  refine c_seq ?_
  refine c_region ?_
  refine o_move rfl rfl ?_
  refine o_bin rfl rfl rfl b_lss ?_
  refine o_move rfl rfl ?_
  refine l_split (t := 12) rfl (fun h1 => ?_) (fun h1 => ?_)
  · -- h1T
    try simp only [decide_eq_true_eq, decide_eq_false_iff_not, Bool.not_eq_eq_eq_not, Bool.not_true, Bool.not_false, Bool.not_eq_true', Bool.not_eq_false', Int.not_lt, Int.not_le, Bool.or_eq_true, Bool.and_eq_true] at h1
    refine o_no rfl rfl rfl rfl ?_
    refine o_no rfl rfl rfl rfl ?_
    refine o_pick_true rfl rfl rfl ?_
    refine l_nil ?_
    refine q_then ?_
    refine c_true rfl ?_
    refine c_seq ?_
    refine c_region ?_
    refine o_move rfl rfl ?_
    refine o_assign rfl rfl ?_
    refine l_nil ?_
    refine q_then ?_
    refine c_ret ?_
    refine q_pass_ret ?_
    exact f_ret (r_one rfl rfl) (⟨[], _, _, by rw [fromL_none (get_out hr (by omega))], rfl, rfl⟩) (fun w S => S)
  · -- h1F
    try simp only [decide_eq_true_eq, decide_eq_false_iff_not, Bool.not_eq_eq_eq_not, Bool.not_true, Bool.not_false, Bool.not_eq_true', Bool.not_eq_false', Int.not_lt, Int.not_le, Bool.or_eq_true, Bool.and_eq_true] at h1
    refine o_yes rfl rfl rfl ?_
    refine o_move rfl rfl ?_
    refine o_yes rfl rfl rfl ?_
    refine o_bin rfl rfl rfl b_gtr ?_
    refine o_pick_false rfl rfl rfl ?_
    refine l_nil ?_
    refine q_then ?_
    refine c_cond rfl (fun h2 => ?_) (fun h2 => ?_)
    · -- h2T
      try simp only [decide_eq_true_eq, decide_eq_false_iff_not, Bool.not_eq_eq_eq_not, Bool.not_true, Bool.not_false, Bool.not_eq_true', Bool.not_eq_false', Int.not_lt, Int.not_le, Bool.or_eq_true, Bool.and_eq_true] at h2
      refine c_seq ?_
      refine c_region ?_
      refine o_move rfl rfl ?_
      refine o_assign rfl rfl ?_
      refine l_nil ?_
      refine q_then ?_
      refine c_ret ?_
      refine q_pass_ret ?_
      exact f_ret (r_one rfl rfl) (⟨[], _, _, by rw [fromL_none (get_out hr (by omega))], rfl, rfl⟩) (fun w S => S)
    · -- h2F
      try simp only [decide_eq_true_eq, decide_eq_false_iff_not, Bool.not_eq_eq_eq_not, Bool.not_true, Bool.not_false, Bool.not_eq_true', Bool.not_eq_false', Int.not_lt, Int.not_le, Bool.or_eq_true, Bool.and_eq_true] at h2
      refine c_skip ?_
      refine q_then ?_
      refine c_seq ?_
      refine c_seq ?_
      refine c_region ?_
      refine o_move rfl rfl ?_
      refine o_assign rfl rfl ?_
      refine l_nil ?_
      refine q_then ?_
      refine c_block ?_
      refine c_loop (α := (List ByteArray) × Int × (Option Addr) × Nat) (fun z => [(0, .pointer (some ⟨k, 0, none⟩)), (1, .int .i64 slot), (2, .int .i64 most), (7, .slice z.2.2.1 z.1.length z.2.2.2), (8, .int .i64 z.2.1)]) (fun z => row eS.T eS.sz z.2.2.1 (z.1).length z.2.2.2 (flat eS z.1) :: blk k (.cells (rcs kn vl) 37 (0, 0)) :: F) (fun z => fromL D slot most.toNat = z.1 ++ fromL D z.2.1 (most.toNat - z.1.length) ∧ (z.1.length : Int) = z.2.1 - slot ∧ 0 ≤ slot ∧ z.1.length ≤ 64) (fun z => 65 - z.1.length) ([], slot, a9, 0) (by exact ⟨by simp, by simp, by omega, by simp⟩) ⟨(by first | rfl | exact vint (by omega)), (by first | rfl | exact vint (by omega)), (by first | rfl | exact vint (by omega)), (by first | rfl | exact vint (by omega)), (by first | rfl | exact vint (by omega)), trivial⟩ (fun w S => S) ?_
      rintro ⟨xs, q, a, c⟩ ⟨hq, hlen, hpos, hle⟩
      try dsimp only at *
      refine c_seq ?_
      refine c_seq ?_
      refine c_region ?_
      refine o_move rfl rfl ?_
      refine o_bin rfl rfl rfl b_lss ?_
      refine o_move rfl rfl ?_
      refine l_split (t := 20) rfl (fun h3 => ?_) (fun h3 => ?_)
      · -- h3T
        try simp only [decide_eq_true_eq, decide_eq_false_iff_not, Bool.not_eq_eq_eq_not, Bool.not_true, Bool.not_false, Bool.not_eq_true', Bool.not_eq_false', Int.not_lt, Int.not_le, Bool.or_eq_true, Bool.and_eq_true] at h3
        refine o_yes rfl rfl rfl ?_
        refine o_move rfl rfl ?_
        refine o_yes rfl rfl rfl ?_
        refine o_move rfl rfl ?_
        refine o_yes rfl rfl rfl ?_
        refine o_nil rfl rfl ?_
        refine o_yes rfl rfl rfl ?_
        refine o_fieldAddr (q := ⟨k, 0, none⟩) rfl rfl Try.underlying37 rfl ti34 rfl ?_
        refine o_yes rfl rfl rfl ?_
        refine o_indexArr rfl rfl rfl Try.underlying34 ti4 (by omega) (by omega) (Addr.add_mk _ _ _) ?_
        refine o_yes rfl rfl rfl ?_
        refine o_load1 rfl rfl Try.underlying4 rfl (rd_mem 1 rfl (rcs_kn ok.lk (by omega) (by omega))) ?_
        refine o_pick_true rfl rfl rfl ?_
        refine o_move rfl rfl ?_
        refine l_split (t := 28) rfl (fun h4 => ?_) (fun h4 => ?_)
        · -- h4T
          try simp only [decide_eq_true_eq, decide_eq_false_iff_not, Bool.not_eq_eq_eq_not, Bool.not_true, Bool.not_false, Bool.not_eq_true', Bool.not_eq_false', Int.not_lt, Int.not_le, Bool.or_eq_true, Bool.and_eq_true] at h4
          rw [refOk_is ok (by omega) (by omega)] at h4
          obtain ⟨v9, hv9⟩ := Option.isSome_iff_exists.1 h4
          refine o_yes rfl rfl rfl ?_
          refine o_move rfl rfl ?_
          refine o_yes rfl rfl rfl ?_
          refine o_len rfl rfl Try.underlying43 ?_
          refine o_yes rfl rfl rfl ?_
          refine o_move rfl rfl ?_
          refine o_yes rfl rfl rfl ?_
          refine o_bin rfl rfl rfl b_lss ?_
          refine o_pick_true rfl rfl rfl ?_
          refine l_nil ?_
          refine q_then ?_
          refine c_cond rfl (fun h5 => ?_) (fun h5 => ?_)
          · -- h5T
            try simp only [decide_eq_true_eq, decide_eq_false_iff_not, Bool.not_eq_eq_eq_not, Bool.not_true, Bool.not_false, Bool.not_eq_true', Bool.not_eq_false', Int.not_lt, Int.not_le, Bool.or_eq_true, Bool.and_eq_true] at h5
            refine c_skip ?_
            refine q_then ?_
            refine c_seq ?_
            refine c_block ?_
            refine c_region ?_
            refine o_move rfl rfl ?_
            refine o_move rfl rfl ?_
            refine o_move rfl rfl ?_
            refine o_nil rfl rfl ?_
            refine o_fieldAddr (q := ⟨k, 64, none⟩) rfl rfl Try.underlying37 rfl ti35 rfl ?_
            refine o_indexArr rfl rfl rfl Try.underlying35 ti9 (by omega) (by omega) (Addr.add_mk _ _ _) ?_
            refine o_load1 rfl rfl Try.underlying9 rfl (rd_mem 1 rfl (rcs_vl ok.lk ok.lv (by omega) (by omega))) ?_
            refine l_eq (t := 42) (v' := .string v9) rfl (by rw [refOk_val ok (by omega) (by omega) hv9]) ?_
            refine o_lit eS_ok rfl Try.underlying43 rfl rfl rfl (lit_ok rfl) [v9] rfl rfl fun a43 => ?_
            refine l_f1 ?_
            refine o_append eS_ok rfl rfl rfl Try.underlying43 (rds_own eS_ok 1 rfl) (by show (_ + _) * 16 ≤ _; (try simp only [List.length_append, List.length_cons, List.length_nil]); omega) (by (try simp only [List.length_append, List.length_cons, List.length_nil]); omega) fun a44 c44 => ?_
            refine l_f1 ?_
            refine l_drop ?_
            refine o_assign rfl rfl ?_
            refine l_nil ?_
            refine q_block ?_
            refine q_then ?_
            refine c_region ?_
            refine o_move rfl rfl ?_
            refine o_bin rfl rfl rfl (b_add (wrap_i64 (by omega) (by omega))) ?_
            refine o_assign rfl rfl ?_
            refine l_nil ?_
            exact q_round (xs ++ [v9], q + 1, a44, c44) (by exact rfrom_next hr hq hlen hpos (by omega) hv9) (by (try dsimp only); simp only [List.length_append, List.length_cons, List.length_nil]; omega) ⟨(by first | rfl | exact vint (by omega)), (by first | rfl | exact vint (by omega)), (by first | rfl | exact vint (by omega)), (by first | rfl | exact vint (by omega)), (by first | rfl | exact vint (by omega)), trivial⟩ (fun w S => S)
          · -- h5F
            try simp only [decide_eq_true_eq, decide_eq_false_iff_not, Bool.not_eq_eq_eq_not, Bool.not_true, Bool.not_false, Bool.not_eq_true', Bool.not_eq_false', Int.not_lt, Int.not_le, Bool.or_eq_true, Bool.and_eq_true] at h5
            have hstop : fromL D q (most.toNat - xs.length) = [] := fromL_stop (by omega)
            refine c_exit ?_
            refine q_pass_exit ?_
            refine q_pass_exit ?_
            refine q_hit ?_
            refine q_then ?_
            refine c_seq ?_
            refine c_region ?_
            refine o_move rfl rfl ?_
            refine o_assign rfl rfl ?_
            refine l_nil ?_
            refine q_then ?_
            refine c_ret ?_
            exact f_ret (r_one rfl rfl) (⟨xs, a, c, by rw [hq, hstop]; simp, rfl, rfl⟩) (fun w S => S)
        · -- h4F
          try simp only [decide_eq_true_eq, decide_eq_false_iff_not, Bool.not_eq_eq_eq_not, Bool.not_true, Bool.not_false, Bool.not_eq_true', Bool.not_eq_false', Int.not_lt, Int.not_le, Bool.or_eq_true, Bool.and_eq_true] at h4
          rw [refOk_is ok (by omega) (by omega)] at h4
          have hstop : fromL D q (most.toNat - xs.length) = [] := fromL_none (by simpa using h4)
          refine o_no rfl rfl rfl rfl ?_
          refine o_no rfl rfl rfl rfl ?_
          refine o_no rfl rfl rfl rfl ?_
          refine o_no rfl rfl rfl rfl ?_
          refine o_pick_false rfl rfl rfl ?_
          refine l_nil ?_
          refine q_then ?_
          refine c_false rfl ?_
          refine c_exit ?_
          refine q_pass_exit ?_
          refine q_pass_exit ?_
          refine q_hit ?_
          refine q_then ?_
          refine c_seq ?_
          refine c_region ?_
          refine o_move rfl rfl ?_
          refine o_assign rfl rfl ?_
          refine l_nil ?_
          refine q_then ?_
          refine c_ret ?_
          exact f_ret (r_one rfl rfl) (⟨xs, a, c, by rw [hq, hstop]; simp, rfl, rfl⟩) (fun w S => S)
      · -- h3F
        try simp only [decide_eq_true_eq, decide_eq_false_iff_not, Bool.not_eq_eq_eq_not, Bool.not_true, Bool.not_false, Bool.not_eq_true', Bool.not_eq_false', Int.not_lt, Int.not_le, Bool.or_eq_true, Bool.and_eq_true] at h3
        have hstop : fromL D q (most.toNat - xs.length) = [] := fromL_none (get_out hr (by omega))
        refine o_no rfl rfl rfl rfl ?_
        refine o_no rfl rfl rfl rfl ?_
        refine o_no rfl rfl rfl rfl ?_
        refine o_no rfl rfl rfl rfl ?_
        refine o_no rfl rfl rfl rfl ?_
        refine o_no rfl rfl rfl rfl ?_
        refine o_pick_false rfl rfl rfl ?_
        refine o_move rfl rfl ?_
        refine o_no rfl rfl rfl rfl ?_
        refine o_no rfl rfl rfl rfl ?_
        refine o_no rfl rfl rfl rfl ?_
        refine o_no rfl rfl rfl rfl ?_
        refine o_pick_false rfl rfl rfl ?_
        refine l_nil ?_
        refine q_then ?_
        refine c_false rfl ?_
        refine c_exit ?_
        refine q_pass_exit ?_
        refine q_pass_exit ?_
        refine q_hit ?_
        refine q_then ?_
        refine c_seq ?_
        refine c_region ?_
        refine o_move rfl rfl ?_
        refine o_assign rfl rfl ?_
        refine l_nil ?_
        refine q_then ?_
        refine c_ret ?_
        exact f_ret (r_one rfl rfl) (⟨xs, a, c, by rw [hq, hstop]; simp, rfl, rfl⟩) (fun w S => S)

end Go.Proofs.Ytokphffmbennkaa
