/- Texts of the proof: Eye, Rdr, RdT, RdO, R9o, RdR. -/
import Derived.Test.YtlblipkcbmcfkaaGreatPiD
namespace Go.Proofs.YtlblipkcbmcfkaaGreat
section
set_option linter.unusedVariables false
set_option linter.unusedSimpArgs false
set_option maxRecDepth 10000
open Go.RowKit
/-- An eye's bytes 'ys': those of 'bs' from number i on. -/
structure EyeOk (W : World) (a : Option Addr) (bs : List UInt8) (i : Nat) (ys : List UInt8) (ay : Option Addr) (cy : Nat) : Prop where
  cut : ∀ {L : List Res}, RdS W L e8 a bs → RdS W L e8 ay ys
  is : ys = bs.drop i
  len : ys.length = bs.length - i
  le : i ≤ bs.length
  cap : ys.length ≤ cy
  small : bs.length ≤ 70000000000000
theorem eyeOk_start {W : World} {a : Option Addr} {bs : List UInt8} {c : Nat} (h : bs.length ≤ c) (hs : bs.length ≤ 70000000000000) : EyeOk W a bs 0 bs a c := ⟨fun h => h, rfl, rfl, Nat.zero_le _, h, hs⟩
theorem sub_all {α : Type} (ys : List α) (u : Nat) : sub ys u ys.length = ys.drop u := by simp [sub]
theorem EyeOk.on {W : World} {a ay : Option Addr} {bs ys : List UInt8} {i cy u : Nat} (h : EyeOk W a bs i ys ay cy) (hu : u ≤ ys.length) : EyeOk W a bs (i + u) (sub ys u ys.length) (cutA ay cy u 1) (cy - u) := by
  have h1 := h.len
  have h2 := h.le
  refine ⟨fun hr => rds_cut e8_ok (h.cut hr) u ys.length cy h.cap, ?_, ?_, by omega, ?_, h.small⟩
  · rw [sub_all, h.is, List.drop_drop]
  · rw [sub_len (Nat.le_refl _)]; omega
  · rw [sub_len (Nat.le_refl _)]; have := h.cap; omega
theorem newEye {W : World} {F : List Res} {xs : List UInt8} {a : Option Addr} {c : Nat} (hs : RdS W F e8 a xs) (hn : xs.length ≤ 70000000000000) : CS Tryz.prog 27 #[.slice a xs.length c] W (F) (fun r L' => ∃ (k : Nat) (a' : Option Addr) (c' : Nat), xs.length ≤ c' ∧ r = .pointer (some ⟨k, 0, none⟩) ∧ L' = blk k (.cells #[.slice a' xs.length c'] 104 (0, 0)) :: row e8.T e8.sz a' (xs).length c' (flat e8 xs) :: F) := by
 refine f_door (l0 := [(0, .slice a xs.length c)]) Tryz.func27 Tryz.ntmps27 rfl rfl rfl ?_
 refine c_seq ?_
 refine c_region ?_
 refine o_assign rfl rfl ?_
 refine l_nil ?_
 refine q_then ?_
 refine c_seq ?_
 refine c_region ?_
 refine o_move rfl rfl ?_
 refine o_call rfl cal46 rfl (clone8p hs hn) ?_
 rintro _ _ ⟨a4, c4, rfl, rfl⟩
 refine l_fact (row_cap 0 rfl) ?_
 intro hcl4
 refine o_build rfl sp104 ti104 rfl rfl ?_
 refine o_box rfl rfl fun b6 => ?_
 refine o_assign rfl rfl ?_
 refine l_nil ?_
 refine q_then ?_
 refine c_ret ?_
 exact f_ret (r_one rfl rfl) (⟨b6, a4, c4, hcl4, rfl, rfl⟩) (fun w S => S)
theorem eyeNum {W : World} {F : List Res} {k i : Nat} {bs ys : List UInt8} {a ay : Option Addr} {c cy : Nat} (ok : EyeOk W a bs i ys ay cy) : CS Tryz.prog 59 #[.pointer (some ⟨k, 0, none⟩)] W (blk k (.cells #[.slice ay (ys).length cy] 104 (0, 0)) :: row e8.T e8.sz a (bs).length c (flat e8 bs) :: F) (fun r L' => ∃ (ys' : List UInt8) (ay' : Option Addr) (cy' : Nat), EyeOk W a bs (i + (numR 0 0 ys).2.2) ys' ay' cy' ∧ r = .tuple #[.int .u64 ((numR 0 0 ys).1 : Int), .int .i64 ((numR 0 0 ys).2.1 : Int)] ∧ L' = blk k (.cells #[.slice ay' (ys').length cy'] 104 (0, 0)) :: row e8.T e8.sz a (bs).length c (flat e8 bs) :: F) := by
 have hcap := ok.cap
 have hlen := ok.len
 have hsm := ok.small
 refine f_door (l0 := [(0, .pointer (some ⟨k, 0, none⟩))]) Tryz.func59 Tryz.ntmps59 rfl rfl rfl ?_
 refine c_seq ?_
 refine c_region ?_
 refine o_assign rfl rfl ?_
 refine o_assign rfl rfl ?_
 refine l_nil ?_
 refine q_then ?_
 refine c_seq ?_
 refine c_seq ?_
 refine c_region ?_
 refine o_move rfl rfl ?_
 refine o_nil rfl rfl ?_
 refine o_fieldAddr (q := ⟨k, 0, none⟩) rfl rfl Tryz.underlying104 rfl ti34 rfl ?_
 refine o_load1 rfl rfl Tryz.underlying34 rfl (rd_mem 0 rfl rfl) ?_
 refine o_len rfl rfl Tryz.underlying34 ?_
 refine o_move rfl rfl ?_
 refine l_nil ?_
 refine q_then ?_
 refine c_block ?_
 refine c_loop (α := Nat × Nat) (fun z => [(0, .pointer (some ⟨k, 0, none⟩)), (2, .int .u64 (z.2 : Int)), (9, .slice ay ys.length cy), (10, .int .i64 (ys.length : Int)), (11, .int .i64 (z.1 : Int))]) (fun z => blk k (.cells #[.slice ay (ys).length cy] 104 (0, 0)) :: row e8.T e8.sz a (bs).length c (flat e8 bs) :: F) (fun z => numR 0 0 ys = numR z.1 z.2 (ys.drop z.1) ∧ z.1 ≤ 9 ∧ z.2 < 128 ^ z.1 ∧ z.1 ≤ ys.length) (fun z => ys.length - z.1) (0, 0) (by exact ⟨rfl, by omega, by decide, by omega⟩) ⟨(by first | rfl | exact vint (by omega)), (by first | rfl | exact vint (by omega)), (by first | rfl | exact vint (by omega)), (by first | rfl | exact vint (by omega)), (by first | rfl | exact vint (by omega)), trivial⟩ (fun w S => S) ?_
 rintro ⟨j, n⟩ ⟨hq, hj9, hn, hjl⟩
 try dsimp only at *
 refine c_seq ?_
 refine c_region ?_
 refine o_bin rfl rfl rfl b_lss ?_
 refine l_nil ?_
 refine q_then ?_
 refine c_seq ?_
 refine c_cond rfl (fun h1 => ?_) (fun h1 => ?_)
 · -- h1T
  try simp only [decide_eq_true_eq, decide_eq_false_iff_not, Bool.not_eq_eq_eq_not, Bool.not_true, Bool.not_false, Bool.not_eq_true', Bool.not_eq_false', Int.not_lt, Int.not_le, Bool.or_eq_true, Bool.and_eq_true] at h1
  refine c_skip ?_
  refine q_then ?_
  refine c_seq ?_
  refine c_block ?_
  refine c_seq ?_
  refine c_region ?_
  refine o_move rfl rfl ?_
  refine o_index e8_ok rfl rfl rfl Tryz.underlying34 (by omega) (by omega) (ok.cut (rds_own e8_ok 1 rfl)) fun ad14 ead14 => ?_
  obtain ⟨x14, hx14⟩ : ∃ x, (ys)[((j : Int)).toNat]? = some x := ⟨_, List.getElem?_eq_getElem (by omega)⟩
  have hx14' : ys[j]? = some x14 := hx14
  rw [drop_get hx14'] at hq
  have hxl := x14.toNat_lt
  refine o_load1 rfl rfl Tryz.underlying5 rfl (rd_sl0 e8_ok ead14 (ok.cut (rds_own e8_ok 1 rfl)) hx14 rfl) ?_
  refine o_assign rfl rfl ?_
  refine o_assign rfl rfl ?_
  refine l_nil ?_
  refine q_then ?_
  refine c_seq ?_
  refine c_seq ?_
  refine c_region ?_
  refine o_move rfl rfl ?_
  refine o_bin rfl rfl rfl b_eql ?_
  refine o_move rfl rfl ?_
  refine l_split (t := 18) rfl (fun h2 => ?_) (fun h2 => ?_)
  · -- h2T
   try simp only [decide_eq_true_eq, decide_eq_false_iff_not, Bool.not_eq_eq_eq_not, Bool.not_true, Bool.not_false, Bool.not_eq_true', Bool.not_eq_false', Int.not_lt, Int.not_le, Bool.or_eq_true, Bool.and_eq_true] at h2
   refine o_yes rfl rfl rfl ?_
   refine o_move rfl rfl ?_
   refine o_yes rfl rfl rfl ?_
   refine o_bin rfl rfl rfl b_gtr ?_
   refine o_pick_true rfl rfl rfl ?_
   refine l_nil ?_
   refine q_then ?_
   refine c_cond rfl (fun h3 => ?_) (fun h3 => ?_)
   · -- h3T
    try simp only [decide_eq_true_eq, decide_eq_false_iff_not, Bool.not_eq_eq_eq_not, Bool.not_true, Bool.not_false, Bool.not_eq_true', Bool.not_eq_false', Int.not_lt, Int.not_le, Bool.or_eq_true, Bool.and_eq_true] at h3
    refine c_seq ?_
    have hres : numR 0 0 ys = (0, 31, 0) := by rw [hq]; exact numR_bad (by omega) (by omega)
    refine c_region ?_
    refine o_assign rfl rfl ?_
    refine o_assign rfl rfl ?_
    refine l_nil ?_
    refine q_then ?_
    refine c_ret ?_
    refine q_pass_ret ?_
    refine q_block_ret ?_
    refine q_pass_ret ?_
    refine q_pass_ret ?_
    refine q_block_ret ?_
    refine q_pass_ret ?_
    exact f_ret (r_two rfl rfl rfl) (⟨ys, ay, cy, by rw [hres]; exact ok, by rw [hres]; rfl, rfl⟩) (fun w S => S)
   · -- h3F
    try simp only [decide_eq_true_eq, decide_eq_false_iff_not, Bool.not_eq_eq_eq_not, Bool.not_true, Bool.not_false, Bool.not_eq_true', Bool.not_eq_false', Int.not_lt, Int.not_le, Bool.or_eq_true, Bool.and_eq_true] at h3
    refine c_skip ?_
    refine q_then ?_
    refine c_seq ?_
    refine c_region ?_
    have hnb : ¬ (j = 9 ∧ 1 < x14.toNat) := by omega
    refine o_move rfl rfl ?_
    refine o_move rfl rfl ?_
    refine o_bin rfl rfl rfl (b_rem (by omega) (tmod128b x14)) ?_
    refine o_int rfl rfl Tryz.underlying5 Tryz.underlying22 (wrap_u64 (by omega) (by omega)) ?_
    refine o_move rfl rfl ?_
    refine o_bin rfl rfl rfl (b_mul (wrap_i64 (by omega) (by omega))) ?_
    refine o_bin rfl rfl rfl (b_shl (by omega) (shl7 hj9 (x_bound hj9 hnb))) ?_
    refine o_bin rfl rfl rfl (b_or (or7 hj9 hn hnb)) ?_
    refine o_assign rfl rfl ?_
    refine l_nil ?_
    refine q_then ?_
    refine c_seq ?_
    refine c_region ?_
    refine o_move rfl rfl ?_
    refine o_bin rfl rfl rfl b_lss ?_
    refine l_nil ?_
    refine q_then ?_
    refine c_cond rfl (fun h4 => ?_) (fun h4 => ?_)
    · -- h4T
     try simp only [decide_eq_true_eq, decide_eq_false_iff_not, Bool.not_eq_eq_eq_not, Bool.not_true, Bool.not_false, Bool.not_eq_true', Bool.not_eq_false', Int.not_lt, Int.not_le, Bool.or_eq_true, Bool.and_eq_true] at h4
     refine c_seq ?_
     refine c_seq ?_
     refine c_region ?_
     refine o_move rfl rfl ?_
     refine o_bin rfl rfl rfl b_eql ?_
     refine o_move rfl rfl ?_
     refine l_split (t := 34) rfl (fun h5 => ?_) (fun h5 => ?_)
     · -- h5T
      try simp only [decide_eq_true_eq, decide_eq_false_iff_not, Bool.not_eq_eq_eq_not, Bool.not_true, Bool.not_false, Bool.not_eq_true', Bool.not_eq_false', Int.not_lt, Int.not_le, Bool.or_eq_true, Bool.and_eq_true] at h5
      refine o_yes rfl rfl rfl ?_
      refine o_move rfl rfl ?_
      refine o_yes rfl rfl rfl ?_
      refine o_bin rfl rfl rfl b_gtr ?_
      refine o_pick_true rfl rfl rfl ?_
      refine l_nil ?_
      refine q_then ?_
      refine c_cond rfl (fun h6 => ?_) (fun h6 => ?_)
      · -- h6T
       try simp only [decide_eq_true_eq, decide_eq_false_iff_not, Bool.not_eq_eq_eq_not, Bool.not_true, Bool.not_false, Bool.not_eq_true', Bool.not_eq_false', Int.not_lt, Int.not_le, Bool.or_eq_true, Bool.and_eq_true] at h6
       refine c_seq ?_
       have hres : numR 0 0 ys = (0, 31, 0) := by rw [hq]; exact numR_zero (by omega) (by omega) (by omega)
       refine c_region ?_
       refine o_assign rfl rfl ?_
       refine o_assign rfl rfl ?_
       refine l_nil ?_
       refine q_then ?_
       refine c_ret ?_
       refine q_pass_ret ?_
       refine q_block_ret ?_
       refine q_pass_ret ?_
       refine q_pass_ret ?_
       refine q_block_ret ?_
       refine q_pass_ret ?_
       exact f_ret (r_two rfl rfl rfl) (⟨ys, ay, cy, by rw [hres]; exact ok, by rw [hres]; rfl, rfl⟩) (fun w S => S)
      · -- h6F
       try simp only [decide_eq_true_eq, decide_eq_false_iff_not, Bool.not_eq_eq_eq_not, Bool.not_true, Bool.not_false, Bool.not_eq_true', Bool.not_eq_false', Int.not_lt, Int.not_le, Bool.or_eq_true, Bool.and_eq_true] at h6
       refine c_skip ?_
       refine q_then ?_
       refine c_seq ?_
       have hres : numR 0 0 ys = (n + x14.toNat % 128 * 128 ^ j, 0, j + 1) := by rw [hq]; exact numR_end hnb (by omega) (by omega)
       refine c_region ?_
       refine o_move rfl rfl ?_
       refine o_move rfl rfl ?_
       refine o_nil rfl rfl ?_
       refine o_fieldAddr (q := ⟨k, 0, none⟩) rfl rfl Tryz.underlying104 rfl ti34 rfl ?_
       refine o_load1 rfl rfl Tryz.underlying34 rfl (rd_mem 0 rfl rfl) ?_
       refine o_move rfl rfl ?_
       refine o_bin rfl rfl rfl (b_add (wrap_i64 (by omega) (by omega))) ?_
       refine o_cut (l' := (j + 1)) (h' := ((ys).length)) (m := cy) rfl rfl Tryz.underlying34 ti5 (.inl ⟨rfl, rfl⟩) (.inl ⟨rfl, rfl, rfl⟩) (.inr ⟨_, _, rfl, icast rfl (by omega), (by omega)⟩) ?_
       obtain ⟨ys45, ay45, cut45, hys45, hlys45, eay45⟩ : ∃ ys_ ay_, (∀ {L : List Res}, RdS W L e8 ay ys → RdS W L e8 ay_ ys_) ∧ ys_ = sub ys (j + 1) ((ys).length) ∧ ys_.length = ((ys).length) - (j + 1) ∧ cutA ay cy (j + 1) 1 = ay_ := ⟨_, _, fun h => rds_cut e8_ok h _ _ _ (by omega), rfl, sub_len (by omega), rfl⟩
       refine l_eq (t := 45) (v' := .slice ay45 ys45.length (cy - (j + 1))) rfl (by rw [eay45, hlys45]) ?_
       have hok' : EyeOk W a bs (i + (numR 0 0 ys).2.2) ys45 ay45 (cy - (j + 1)) := by rw [hres, hys45, ← eay45]; exact ok.on (u := j + 1) (by omega)
       refine o_nil rfl rfl ?_
       refine o_fieldAddr (q := ⟨k, 0, none⟩) rfl rfl Tryz.underlying104 rfl ti34 rfl ?_
       refine o_store1 rfl rfl rfl ti34 rfl rfl ?_
       refine l_nil ?_
       refine q_then ?_
       refine c_seq ?_
       refine c_region ?_
       refine o_move rfl rfl ?_
       refine o_assign rfl rfl ?_
       refine o_assign rfl rfl ?_
       refine l_nil ?_
       refine q_then ?_
       refine c_ret ?_
       refine q_block_ret ?_
       refine q_pass_ret ?_
       refine q_pass_ret ?_
       refine q_block_ret ?_
       refine q_pass_ret ?_
       exact f_ret (r_two rfl rfl rfl) (⟨_, _, _, hok', by rw [hres]; rfl, rfl⟩) (fun w S => S)
     · -- h5F
      try simp only [decide_eq_true_eq, decide_eq_false_iff_not, Bool.not_eq_eq_eq_not, Bool.not_true, Bool.not_false, Bool.not_eq_true', Bool.not_eq_false', Int.not_lt, Int.not_le, Bool.or_eq_true, Bool.and_eq_true] at h5
      refine o_no rfl rfl rfl rfl ?_
      refine o_no rfl rfl rfl rfl ?_
      refine o_pick_false rfl rfl rfl ?_
      refine l_nil ?_
      refine q_then ?_
      refine c_false rfl ?_
      refine c_skip ?_
      refine q_then ?_
      refine c_seq ?_
      have hres : numR 0 0 ys = (n + x14.toNat % 128 * 128 ^ j, 0, j + 1) := by rw [hq]; exact numR_end hnb (by omega) (by omega)
      refine c_region ?_
      refine o_move rfl rfl ?_
      refine o_move rfl rfl ?_
      refine o_nil rfl rfl ?_
      refine o_fieldAddr (q := ⟨k, 0, none⟩) rfl rfl Tryz.underlying104 rfl ti34 rfl ?_
      refine o_load1 rfl rfl Tryz.underlying34 rfl (rd_mem 0 rfl rfl) ?_
      refine o_move rfl rfl ?_
      refine o_bin rfl rfl rfl (b_add (wrap_i64 (by omega) (by omega))) ?_
      refine o_cut (l' := (j + 1)) (h' := ((ys).length)) (m := cy) rfl rfl Tryz.underlying34 ti5 (.inl ⟨rfl, rfl⟩) (.inl ⟨rfl, rfl, rfl⟩) (.inr ⟨_, _, rfl, icast rfl (by omega), (by omega)⟩) ?_
      obtain ⟨ys45, ay45, cut45, hys45, hlys45, eay45⟩ : ∃ ys_ ay_, (∀ {L : List Res}, RdS W L e8 ay ys → RdS W L e8 ay_ ys_) ∧ ys_ = sub ys (j + 1) ((ys).length) ∧ ys_.length = ((ys).length) - (j + 1) ∧ cutA ay cy (j + 1) 1 = ay_ := ⟨_, _, fun h => rds_cut e8_ok h _ _ _ (by omega), rfl, sub_len (by omega), rfl⟩
      refine l_eq (t := 45) (v' := .slice ay45 ys45.length (cy - (j + 1))) rfl (by rw [eay45, hlys45]) ?_
      have hok' : EyeOk W a bs (i + (numR 0 0 ys).2.2) ys45 ay45 (cy - (j + 1)) := by rw [hres, hys45, ← eay45]; exact ok.on (u := j + 1) (by omega)
      refine o_nil rfl rfl ?_
      refine o_fieldAddr (q := ⟨k, 0, none⟩) rfl rfl Tryz.underlying104 rfl ti34 rfl ?_
      refine o_store1 rfl rfl rfl ti34 rfl rfl ?_
      refine l_nil ?_
      refine q_then ?_
      refine c_seq ?_
      refine c_region ?_
      refine o_move rfl rfl ?_
      refine o_assign rfl rfl ?_
      refine o_assign rfl rfl ?_
      refine l_nil ?_
      refine q_then ?_
      refine c_ret ?_
      refine q_block_ret ?_
      refine q_pass_ret ?_
      refine q_pass_ret ?_
      refine q_block_ret ?_
      refine q_pass_ret ?_
      exact f_ret (r_two rfl rfl rfl) (⟨_, _, _, hok', by rw [hres]; rfl, rfl⟩) (fun w S => S)
    · -- h4F
     try simp only [decide_eq_true_eq, decide_eq_false_iff_not, Bool.not_eq_eq_eq_not, Bool.not_true, Bool.not_false, Bool.not_eq_true', Bool.not_eq_false', Int.not_lt, Int.not_le, Bool.or_eq_true, Bool.and_eq_true] at h4
     refine c_skip ?_
     refine q_block ?_
     refine q_then ?_
     refine c_region ?_
     refine o_bin rfl rfl rfl (b_add (wrap_i64 (by omega) (by omega))) ?_
     refine o_move rfl rfl ?_
     refine l_nil ?_
     exact q_round (j + 1, n + x14.toNat % 128 * 128 ^ j) (by exact ⟨by rw [hq, numR_on hnb (by omega)], by omega, numR_next hn, by omega⟩) (by (try dsimp only); omega) ⟨(by first | rfl | exact vint (by omega)), (by first | rfl | exact vint (by omega)), (by first | rfl | exact vint (by omega)), (by first | rfl | exact vint (by omega)), (by first | rfl | exact vint (by omega)), trivial⟩ (fun w S => S)
  · -- h2F
   try simp only [decide_eq_true_eq, decide_eq_false_iff_not, Bool.not_eq_eq_eq_not, Bool.not_true, Bool.not_false, Bool.not_eq_true', Bool.not_eq_false', Int.not_lt, Int.not_le, Bool.or_eq_true, Bool.and_eq_true] at h2
   refine o_no rfl rfl rfl rfl ?_
   refine o_no rfl rfl rfl rfl ?_
   refine o_pick_false rfl rfl rfl ?_
   refine l_nil ?_
   refine q_then ?_
   refine c_false rfl ?_
   refine c_skip ?_
   refine q_then ?_
   refine c_seq ?_
   refine c_region ?_
   have hnb : ¬ (j = 9 ∧ 1 < x14.toNat) := by omega
   refine o_move rfl rfl ?_
   refine o_move rfl rfl ?_
   refine o_bin rfl rfl rfl (b_rem (by omega) (tmod128b x14)) ?_
   refine o_int rfl rfl Tryz.underlying5 Tryz.underlying22 (wrap_u64 (by omega) (by omega)) ?_
   refine o_move rfl rfl ?_
   refine o_bin rfl rfl rfl (b_mul (wrap_i64 (by omega) (by omega))) ?_
   refine o_bin rfl rfl rfl (b_shl (by omega) (shl7 hj9 (x_bound hj9 hnb))) ?_
   refine o_bin rfl rfl rfl (b_or (or7 hj9 hn hnb)) ?_
   refine o_assign rfl rfl ?_
   refine l_nil ?_
   refine q_then ?_
   refine c_seq ?_
   refine c_region ?_
   refine o_move rfl rfl ?_
   refine o_bin rfl rfl rfl b_lss ?_
   refine l_nil ?_
   refine q_then ?_
   refine c_cond rfl (fun h7 => ?_) (fun h7 => ?_)
   · -- h7T
    try simp only [decide_eq_true_eq, decide_eq_false_iff_not, Bool.not_eq_eq_eq_not, Bool.not_true, Bool.not_false, Bool.not_eq_true', Bool.not_eq_false', Int.not_lt, Int.not_le, Bool.or_eq_true, Bool.and_eq_true] at h7
    refine c_seq ?_
    refine c_seq ?_
    refine c_region ?_
    refine o_move rfl rfl ?_
    refine o_bin rfl rfl rfl b_eql ?_
    refine o_move rfl rfl ?_
    refine l_split (t := 34) rfl (fun h8 => ?_) (fun h8 => ?_)
    · -- h8T
     try simp only [decide_eq_true_eq, decide_eq_false_iff_not, Bool.not_eq_eq_eq_not, Bool.not_true, Bool.not_false, Bool.not_eq_true', Bool.not_eq_false', Int.not_lt, Int.not_le, Bool.or_eq_true, Bool.and_eq_true] at h8
     refine o_yes rfl rfl rfl ?_
     refine o_move rfl rfl ?_
     refine o_yes rfl rfl rfl ?_
     refine o_bin rfl rfl rfl b_gtr ?_
     refine o_pick_true rfl rfl rfl ?_
     refine l_nil ?_
     refine q_then ?_
     refine c_cond rfl (fun h9 => ?_) (fun h9 => ?_)
     · -- h9T
      try simp only [decide_eq_true_eq, decide_eq_false_iff_not, Bool.not_eq_eq_eq_not, Bool.not_true, Bool.not_false, Bool.not_eq_true', Bool.not_eq_false', Int.not_lt, Int.not_le, Bool.or_eq_true, Bool.and_eq_true] at h9
      refine c_seq ?_
      have hres : numR 0 0 ys = (0, 31, 0) := by rw [hq]; exact numR_zero (by omega) (by omega) (by omega)
      refine c_region ?_
      refine o_assign rfl rfl ?_
      refine o_assign rfl rfl ?_
      refine l_nil ?_
      refine q_then ?_
      refine c_ret ?_
      refine q_pass_ret ?_
      refine q_block_ret ?_
      refine q_pass_ret ?_
      refine q_pass_ret ?_
      refine q_block_ret ?_
      refine q_pass_ret ?_
      exact f_ret (r_two rfl rfl rfl) (⟨ys, ay, cy, by rw [hres]; exact ok, by rw [hres]; rfl, rfl⟩) (fun w S => S)
     · -- h9F
      try simp only [decide_eq_true_eq, decide_eq_false_iff_not, Bool.not_eq_eq_eq_not, Bool.not_true, Bool.not_false, Bool.not_eq_true', Bool.not_eq_false', Int.not_lt, Int.not_le, Bool.or_eq_true, Bool.and_eq_true] at h9
      refine c_skip ?_
      refine q_then ?_
      refine c_seq ?_
      have hres : numR 0 0 ys = (n + x14.toNat % 128 * 128 ^ j, 0, j + 1) := by rw [hq]; exact numR_end hnb (by omega) (by omega)
      refine c_region ?_
      refine o_move rfl rfl ?_
      refine o_move rfl rfl ?_
      refine o_nil rfl rfl ?_
      refine o_fieldAddr (q := ⟨k, 0, none⟩) rfl rfl Tryz.underlying104 rfl ti34 rfl ?_
      refine o_load1 rfl rfl Tryz.underlying34 rfl (rd_mem 0 rfl rfl) ?_
      refine o_move rfl rfl ?_
      refine o_bin rfl rfl rfl (b_add (wrap_i64 (by omega) (by omega))) ?_
      refine o_cut (l' := (j + 1)) (h' := ((ys).length)) (m := cy) rfl rfl Tryz.underlying34 ti5 (.inl ⟨rfl, rfl⟩) (.inl ⟨rfl, rfl, rfl⟩) (.inr ⟨_, _, rfl, icast rfl (by omega), (by omega)⟩) ?_
      obtain ⟨ys45, ay45, cut45, hys45, hlys45, eay45⟩ : ∃ ys_ ay_, (∀ {L : List Res}, RdS W L e8 ay ys → RdS W L e8 ay_ ys_) ∧ ys_ = sub ys (j + 1) ((ys).length) ∧ ys_.length = ((ys).length) - (j + 1) ∧ cutA ay cy (j + 1) 1 = ay_ := ⟨_, _, fun h => rds_cut e8_ok h _ _ _ (by omega), rfl, sub_len (by omega), rfl⟩
      refine l_eq (t := 45) (v' := .slice ay45 ys45.length (cy - (j + 1))) rfl (by rw [eay45, hlys45]) ?_
      have hok' : EyeOk W a bs (i + (numR 0 0 ys).2.2) ys45 ay45 (cy - (j + 1)) := by rw [hres, hys45, ← eay45]; exact ok.on (u := j + 1) (by omega)
      refine o_nil rfl rfl ?_
      refine o_fieldAddr (q := ⟨k, 0, none⟩) rfl rfl Tryz.underlying104 rfl ti34 rfl ?_
      refine o_store1 rfl rfl rfl ti34 rfl rfl ?_
      refine l_nil ?_
      refine q_then ?_
      refine c_seq ?_
      refine c_region ?_
      refine o_move rfl rfl ?_
      refine o_assign rfl rfl ?_
      refine o_assign rfl rfl ?_
      refine l_nil ?_
      refine q_then ?_
      refine c_ret ?_
      refine q_block_ret ?_
      refine q_pass_ret ?_
      refine q_pass_ret ?_
      refine q_block_ret ?_
      refine q_pass_ret ?_
      exact f_ret (r_two rfl rfl rfl) (⟨_, _, _, hok', by rw [hres]; rfl, rfl⟩) (fun w S => S)
    · -- h8F
     try simp only [decide_eq_true_eq, decide_eq_false_iff_not, Bool.not_eq_eq_eq_not, Bool.not_true, Bool.not_false, Bool.not_eq_true', Bool.not_eq_false', Int.not_lt, Int.not_le, Bool.or_eq_true, Bool.and_eq_true] at h8
     refine o_no rfl rfl rfl rfl ?_
     refine o_no rfl rfl rfl rfl ?_
     refine o_pick_false rfl rfl rfl ?_
     refine l_nil ?_
     refine q_then ?_
     refine c_false rfl ?_
     refine c_skip ?_
     refine q_then ?_
     refine c_seq ?_
     have hres : numR 0 0 ys = (n + x14.toNat % 128 * 128 ^ j, 0, j + 1) := by rw [hq]; exact numR_end hnb (by omega) (by omega)
     refine c_region ?_
     refine o_move rfl rfl ?_
     refine o_move rfl rfl ?_
     refine o_nil rfl rfl ?_
     refine o_fieldAddr (q := ⟨k, 0, none⟩) rfl rfl Tryz.underlying104 rfl ti34 rfl ?_
     refine o_load1 rfl rfl Tryz.underlying34 rfl (rd_mem 0 rfl rfl) ?_
     refine o_move rfl rfl ?_
     refine o_bin rfl rfl rfl (b_add (wrap_i64 (by omega) (by omega))) ?_
     refine o_cut (l' := (j + 1)) (h' := ((ys).length)) (m := cy) rfl rfl Tryz.underlying34 ti5 (.inl ⟨rfl, rfl⟩) (.inl ⟨rfl, rfl, rfl⟩) (.inr ⟨_, _, rfl, icast rfl (by omega), (by omega)⟩) ?_
     obtain ⟨ys45, ay45, cut45, hys45, hlys45, eay45⟩ : ∃ ys_ ay_, (∀ {L : List Res}, RdS W L e8 ay ys → RdS W L e8 ay_ ys_) ∧ ys_ = sub ys (j + 1) ((ys).length) ∧ ys_.length = ((ys).length) - (j + 1) ∧ cutA ay cy (j + 1) 1 = ay_ := ⟨_, _, fun h => rds_cut e8_ok h _ _ _ (by omega), rfl, sub_len (by omega), rfl⟩
     refine l_eq (t := 45) (v' := .slice ay45 ys45.length (cy - (j + 1))) rfl (by rw [eay45, hlys45]) ?_
     have hok' : EyeOk W a bs (i + (numR 0 0 ys).2.2) ys45 ay45 (cy - (j + 1)) := by rw [hres, hys45, ← eay45]; exact ok.on (u := j + 1) (by omega)
     refine o_nil rfl rfl ?_
     refine o_fieldAddr (q := ⟨k, 0, none⟩) rfl rfl Tryz.underlying104 rfl ti34 rfl ?_
     refine o_store1 rfl rfl rfl ti34 rfl rfl ?_
     refine l_nil ?_
     refine q_then ?_
     refine c_seq ?_
     refine c_region ?_
     refine o_move rfl rfl ?_
     refine o_assign rfl rfl ?_
     refine o_assign rfl rfl ?_
     refine l_nil ?_
     refine q_then ?_
     refine c_ret ?_
     refine q_block_ret ?_
     refine q_pass_ret ?_
     refine q_pass_ret ?_
     refine q_block_ret ?_
     refine q_pass_ret ?_
     exact f_ret (r_two rfl rfl rfl) (⟨_, _, _, hok', by rw [hres]; rfl, rfl⟩) (fun w S => S)
   · -- h7F
    try simp only [decide_eq_true_eq, decide_eq_false_iff_not, Bool.not_eq_eq_eq_not, Bool.not_true, Bool.not_false, Bool.not_eq_true', Bool.not_eq_false', Int.not_lt, Int.not_le, Bool.or_eq_true, Bool.and_eq_true] at h7
    refine c_skip ?_
    refine q_block ?_
    refine q_then ?_
    refine c_region ?_
    refine o_bin rfl rfl rfl (b_add (wrap_i64 (by omega) (by omega))) ?_
    refine o_move rfl rfl ?_
    refine l_nil ?_
    exact q_round (j + 1, n + x14.toNat % 128 * 128 ^ j) (by exact ⟨by rw [hq, numR_on hnb (by omega)], by omega, numR_next hn, by omega⟩) (by (try dsimp only); omega) ⟨(by first | rfl | exact vint (by omega)), (by first | rfl | exact vint (by omega)), (by first | rfl | exact vint (by omega)), (by first | rfl | exact vint (by omega)), (by first | rfl | exact vint (by omega)), trivial⟩ (fun w S => S)
 · -- h1F
  try simp only [decide_eq_true_eq, decide_eq_false_iff_not, Bool.not_eq_eq_eq_not, Bool.not_true, Bool.not_false, Bool.not_eq_true', Bool.not_eq_false', Int.not_lt, Int.not_le, Bool.or_eq_true, Bool.and_eq_true] at h1
  refine c_exit ?_
  refine q_pass_exit ?_
  refine q_pass_exit ?_
  refine q_hit ?_
  refine q_then ?_
  refine c_seq ?_
  refine c_region ?_
  refine o_assign rfl rfl ?_
  refine o_assign rfl rfl ?_
  refine l_nil ?_
  refine q_then ?_
  refine c_ret ?_
  exact f_ret (r_two rfl rfl rfl) (⟨ys, ay, cy, by rw [hq, List.drop_of_length_le (by omega), numR]; exact ok, by rw [hq, List.drop_of_length_le (by omega), numR]; rfl, rfl⟩) (fun w S => S)
theorem eyeText {W : World} {F : List Res} {k i : Nat} {bs ys : List UInt8} {a ay : Option Addr} {c cy : Nat} (ok : EyeOk W a bs i ys ay cy) : CS Tryz.prog 72 #[.pointer (some ⟨k, 0, none⟩)] W (blk k (.cells #[.slice ay (ys).length cy] 104 (0, 0)) :: row e8.T e8.sz a (bs).length c (flat e8 bs) :: F) (fun r L' => ∃ (out ys' : List UInt8) (ay' : Option Addr) (cy' : Nat) (a2 : Option Addr) (c2 : Nat), out = (textR ys).1 ∧ EyeOk W a bs (i + (textR ys).2.2) ys' ay' cy' ∧ r = .tuple #[.slice a2 out.length c2, .int .i64 ((textR ys).2.1 : Int)] ∧ L' = row e8.T e8.sz a2 (out).length c2 (flat e8 out) :: blk k (.cells #[.slice ay' (ys').length cy'] 104 (0, 0)) :: row e8.T e8.sz a (bs).length c (flat e8 bs) :: F) := by
 have hcap := ok.cap
 have hlen := ok.len
 have hsm := ok.small
 have hu := numR_used ys 0 0
 refine f_door (l0 := [(0, .pointer (some ⟨k, 0, none⟩))]) Tryz.func72 Tryz.ntmps72 rfl rfl rfl ?_
 refine c_seq ?_
 refine c_region ?_
 refine o_assign rfl rfl ?_
 refine o_assign rfl rfl ?_
 refine l_nil ?_
 refine q_then ?_
 refine c_seq ?_
 refine c_region ?_
 refine o_move rfl rfl ?_
 refine o_nil rfl rfl ?_
 refine o_fieldAddr (q := ⟨k, 0, none⟩) rfl rfl Tryz.underlying104 rfl ti34 rfl ?_
 refine o_load1 rfl rfl Tryz.underlying34 rfl (rd_mem 0 rfl rfl) ?_
 refine o_assign rfl rfl ?_
 refine l_nil ?_
 refine q_then ?_
 refine c_seq ?_
 refine c_region ?_
 refine o_move rfl rfl ?_
 refine l_f1 ?_
 refine l_f1 ?_
 refine o_call rfl cal59 rfl (eyeNum ok) ?_
 rintro _ _ ⟨ys14, ay14, cy14, ok14, rfl, rfl⟩
 have hc14 := ok14.cap
 have hl14 := ok14.len
 have hi14 := ok14.le
 have hii := ok.le
 have h14 : ys14 = ys.drop (numR 0 0 ys).2.2 := by rw [ok14.is, ok.is, List.drop_drop]
 refine o_move rfl rfl ?_
 refine o_extract rfl rfl rfl ?_
 refine o_extract rfl rfl rfl ?_
 refine o_assign rfl rfl ?_
 refine o_assign rfl rfl ?_
 refine l_nil ?_
 refine q_then ?_
 refine c_seq ?_
 refine c_seq ?_
 refine c_region ?_
 refine o_move rfl rfl ?_
 refine o_bin rfl rfl rfl b_eql ?_
 refine o_move rfl rfl ?_
 refine l_split (t := 19) rfl (fun h1 => ?_) (fun h1 => ?_)
 · -- h1T
  try simp only [decide_eq_true_eq, decide_eq_false_iff_not, Bool.not_eq_eq_eq_not, Bool.not_true, Bool.not_false, Bool.not_eq_true', Bool.not_eq_false', Int.not_lt, Int.not_le, Bool.or_eq_true, Bool.and_eq_true] at h1
  refine o_yes rfl rfl rfl ?_
  refine o_move rfl rfl ?_
  refine o_yes rfl rfl rfl ?_
  refine o_move rfl rfl ?_
  refine o_yes rfl rfl rfl ?_
  refine o_nil rfl rfl ?_
  refine o_yes rfl rfl rfl ?_
  refine o_fieldAddr (q := ⟨k, 0, none⟩) rfl rfl Tryz.underlying104 rfl ti34 rfl ?_
  refine o_yes rfl rfl rfl ?_
  refine o_load1 rfl rfl Tryz.underlying34 rfl (rd_mem 0 rfl rfl) ?_
  refine o_yes rfl rfl rfl ?_
  refine o_len rfl rfl Tryz.underlying34 ?_
  refine o_yes rfl rfl rfl ?_
  refine o_int rfl rfl Tryz.underlying3 Tryz.underlying22 (wrap_u64 (by omega) (by omega)) ?_
  refine o_yes rfl rfl rfl ?_
  refine o_bin rfl rfl rfl b_gtr ?_
  refine o_pick_true rfl rfl rfl ?_
  refine l_nil ?_
  refine q_then ?_
  refine c_cond rfl (fun h2 => ?_) (fun h2 => ?_)
  · -- h2T
   try simp only [decide_eq_true_eq, decide_eq_false_iff_not, Bool.not_eq_eq_eq_not, Bool.not_true, Bool.not_false, Bool.not_eq_true', Bool.not_eq_false', Int.not_lt, Int.not_le, Bool.or_eq_true, Bool.and_eq_true] at h2
   refine c_region ?_
   refine o_assign rfl rfl ?_
   refine l_nil ?_
   refine q_then ?_
   refine c_seq ?_
   refine c_seq ?_
   refine c_region ?_
   refine o_move rfl rfl ?_
   refine o_bin rfl rfl rfl b_neq ?_
   refine l_eq (t := 30) (v' := .bool true) rfl (show _ = Value.bool true from by rfl) ?_
   refine l_nil ?_
   refine q_then ?_
   refine c_true rfl ?_
   refine c_seq ?_
   refine c_region ?_
   refine o_move rfl rfl ?_
   refine o_move rfl rfl ?_
   refine o_nil rfl rfl ?_
   refine o_fieldAddr (q := ⟨k, 0, none⟩) rfl rfl Tryz.underlying104 rfl ti34 rfl ?_
   refine o_store1 rfl rfl rfl ti34 rfl rfl ?_
   refine l_nil ?_
   refine q_then ?_
   refine c_seq ?_
   refine c_nilrow e8 ?_
   refine c_region ?_
   refine o_move rfl rfl ?_
   refine o_assign rfl rfl ?_
   refine o_assign rfl rfl ?_
   refine l_nil ?_
   refine q_then ?_
   refine c_ret ?_
   refine q_pass_ret ?_
   exact f_ret (r_two rfl rfl rfl) (⟨[], ys, ay, cy, none, 0, by rw [textR_short (by omega) (by omega)], by rw [textR_short (by omega) (by omega)]; exact ok, by rw [textR_short (by omega) (by omega)]; rfl, rfl⟩) (fun w S => S)
  · -- h2F
   try simp only [decide_eq_true_eq, decide_eq_false_iff_not, Bool.not_eq_eq_eq_not, Bool.not_true, Bool.not_false, Bool.not_eq_true', Bool.not_eq_false', Int.not_lt, Int.not_le, Bool.or_eq_true, Bool.and_eq_true] at h2
   refine c_skip ?_
   refine q_then ?_
   refine c_seq ?_
   refine c_seq ?_
   refine c_region ?_
   refine o_move rfl rfl ?_
   refine o_bin rfl rfl rfl b_neq ?_
   refine l_nil ?_
   refine q_then ?_
   refine c_cond rfl (fun h3 => ?_) (fun h3 => ?_)
   · -- h3T
    try simp only [decide_eq_true_eq, decide_eq_false_iff_not, Bool.not_eq_eq_eq_not, Bool.not_true, Bool.not_false, Bool.not_eq_true', Bool.not_eq_false', Int.not_lt, Int.not_le, Bool.or_eq_true, Bool.and_eq_true] at h3
    refine c_seq ?_
    refine c_region ?_
    refine o_move rfl rfl ?_
    refine o_move rfl rfl ?_
    refine o_nil rfl rfl ?_
    refine o_fieldAddr (q := ⟨k, 0, none⟩) rfl rfl Tryz.underlying104 rfl ti34 rfl ?_
    refine o_store1 rfl rfl rfl ti34 rfl rfl ?_
    refine l_nil ?_
    refine q_then ?_
    refine c_seq ?_
    refine c_nilrow e8 ?_
    refine c_region ?_
    refine o_move rfl rfl ?_
    refine o_assign rfl rfl ?_
    refine o_assign rfl rfl ?_
    refine l_nil ?_
    refine q_then ?_
    refine c_ret ?_
    refine q_pass_ret ?_
    exact f_ret (r_two rfl rfl rfl) (⟨[], ys, ay, cy, none, 0, by rw [textR_err (by omega)], by rw [textR_err (by omega)]; exact ok, by rw [textR_err (by omega)]; rfl, rfl⟩) (fun w S => S)
   · -- h3F
    try simp only [decide_eq_true_eq, decide_eq_false_iff_not, Bool.not_eq_eq_eq_not, Bool.not_true, Bool.not_false, Bool.not_eq_true', Bool.not_eq_false', Int.not_lt, Int.not_le, Bool.or_eq_true, Bool.and_eq_true] at h3
    refine c_skip ?_
    refine q_then ?_
    refine c_seq ?_
    refine c_region ?_
    refine o_move rfl rfl ?_
    refine o_nil rfl rfl ?_
    refine o_fieldAddr (q := ⟨k, 0, none⟩) rfl rfl Tryz.underlying104 rfl ti34 rfl ?_
    refine o_load1 rfl rfl Tryz.underlying34 rfl (rd_mem 0 rfl rfl) ?_
    refine o_move rfl rfl ?_
    refine o_cut (l' := 0) (h' := ((numR 0 0 ys).1)) (m := cy14) rfl rfl Tryz.underlying34 ti5 (.inl ⟨rfl, rfl⟩) (.inr ⟨_, _, rfl, icast rfl rfl, (by omega)⟩) (.inl ⟨rfl, rfl⟩) ?_
    obtain ⟨ys41, ay41, cut41, hys41, hlys41, eay41⟩ : ∃ ys_ ay_, (∀ {L : List Res}, RdS W L e8 ay14 ys14 → RdS W L e8 ay_ ys_) ∧ ys_ = sub ys14 0 ((numR 0 0 ys).1) ∧ ys_.length = ((numR 0 0 ys).1) - 0 ∧ cutA ay14 cy14 0 1 = ay_ := ⟨_, _, fun h => rds_cut e8_ok h _ _ _ (by omega), rfl, sub_len (by omega), rfl⟩
    refine l_eq (t := 41) (v' := .slice ay41 ys41.length (cy14 - 0)) rfl (by rw [eay41, hlys41]) ?_
    refine o_call rfl cal46 rfl (clone8p (cut41 (ok14.cut (rds_own e8_ok 1 rfl))) (by omega)) ?_
    rintro _ _ ⟨a42, c42, rfl, rfl⟩
    refine o_assign rfl rfl ?_
    refine l_nil ?_
    refine q_then ?_
    refine c_seq ?_
    refine c_region ?_
    refine o_move rfl rfl ?_
    refine o_move rfl rfl ?_
    refine o_nil rfl rfl ?_
    refine o_fieldAddr (q := ⟨k, 0, none⟩) rfl rfl Tryz.underlying104 rfl ti34 rfl ?_
    refine o_load1 rfl rfl Tryz.underlying34 rfl (rd_mem 1 rfl rfl) ?_
    refine o_move rfl rfl ?_
    refine o_cut (l' := ((numR 0 0 ys).1)) (h' := ((ys14).length)) (m := cy14) rfl rfl Tryz.underlying34 ti5 (.inl ⟨rfl, rfl⟩) (.inl ⟨rfl, rfl, rfl⟩) (.inr ⟨_, _, rfl, icast rfl rfl, (by omega)⟩) ?_
    obtain ⟨ys49, ay49, cut49, hys49, hlys49, eay49⟩ : ∃ ys_ ay_, (∀ {L : List Res}, RdS W L e8 ay14 ys14 → RdS W L e8 ay_ ys_) ∧ ys_ = sub ys14 ((numR 0 0 ys).1) ((ys14).length) ∧ ys_.length = ((ys14).length) - ((numR 0 0 ys).1) ∧ cutA ay14 cy14 ((numR 0 0 ys).1) 1 = ay_ := ⟨_, _, fun h => rds_cut e8_ok h _ _ _ (by omega), rfl, sub_len (by omega), rfl⟩
    refine l_eq (t := 49) (v' := .slice ay49 ys49.length (cy14 - ((numR 0 0 ys).1))) rfl (by rw [eay49, hlys49]) ?_
    refine o_nil rfl rfl ?_
    refine o_fieldAddr (q := ⟨k, 0, none⟩) rfl rfl Tryz.underlying104 rfl ti34 rfl ?_
    refine l_f1 ?_
    refine o_store1 rfl rfl rfl ti34 rfl rfl ?_
    refine l_nil ?_
    refine q_then ?_
    refine c_seq ?_
    refine c_region ?_
    refine o_move rfl rfl ?_
    refine o_assign rfl rfl ?_
    refine o_assign rfl rfl ?_
    refine l_nil ?_
    refine q_then ?_
    refine c_ret ?_
    refine q_conv (fun w S => S.perm p2) ?_
    refine q_conv (fun w S => S.perm p1) ?_
    refine q_conv (fun w S => S.perm p2) ?_
    exact f_ret (r_two rfl rfl rfl) (⟨ys41, ys49, ay49, _, a42, c42, by rw [hys41, h14, sub_drop, textR_ok (by omega) (by omega)], by rw [textR_ok (by omega) (by omega), hys49, ← eay49, ← Nat.add_assoc]; exact ok14.on (u := (numR 0 0 ys).1) (by omega), by rw [textR_ok (by omega) (by omega)]; rfl, rfl⟩) (fun w S => S)
 · -- h1F
  try simp only [decide_eq_true_eq, decide_eq_false_iff_not, Bool.not_eq_eq_eq_not, Bool.not_true, Bool.not_false, Bool.not_eq_true', Bool.not_eq_false', Int.not_lt, Int.not_le, Bool.or_eq_true, Bool.and_eq_true] at h1
  refine o_no rfl rfl rfl rfl ?_
  refine o_no rfl rfl rfl rfl ?_
  refine o_no rfl rfl rfl rfl ?_
  refine o_no rfl rfl rfl rfl ?_
  refine o_no rfl rfl rfl rfl ?_
  refine o_no rfl rfl rfl rfl ?_
  refine o_no rfl rfl rfl rfl ?_
  refine o_no rfl rfl rfl rfl ?_
  refine o_pick_false rfl rfl rfl ?_
  refine l_nil ?_
  refine q_then ?_
  refine c_false rfl ?_
  refine c_skip ?_
  refine q_then ?_
  refine c_seq ?_
  refine c_seq ?_
  refine c_region ?_
  refine o_move rfl rfl ?_
  refine o_bin rfl rfl rfl b_neq ?_
  refine l_nil ?_
  refine q_then ?_
  refine c_cond rfl (fun h4 => ?_) (fun h4 => ?_)
  · -- h4T
   try simp only [decide_eq_true_eq, decide_eq_false_iff_not, Bool.not_eq_eq_eq_not, Bool.not_true, Bool.not_false, Bool.not_eq_true', Bool.not_eq_false', Int.not_lt, Int.not_le, Bool.or_eq_true, Bool.and_eq_true] at h4
   refine c_seq ?_
   refine c_region ?_
   refine o_move rfl rfl ?_
   refine o_move rfl rfl ?_
   refine o_nil rfl rfl ?_
   refine o_fieldAddr (q := ⟨k, 0, none⟩) rfl rfl Tryz.underlying104 rfl ti34 rfl ?_
   refine o_store1 rfl rfl rfl ti34 rfl rfl ?_
   refine l_nil ?_
   refine q_then ?_
   refine c_seq ?_
   refine c_nilrow e8 ?_
   refine c_region ?_
   refine o_move rfl rfl ?_
   refine o_assign rfl rfl ?_
   refine o_assign rfl rfl ?_
   refine l_nil ?_
   refine q_then ?_
   refine c_ret ?_
   refine q_pass_ret ?_
   exact f_ret (r_two rfl rfl rfl) (⟨[], ys, ay, cy, none, 0, by rw [textR_err (by omega)], by rw [textR_err (by omega)]; exact ok, by rw [textR_err (by omega)]; rfl, rfl⟩) (fun w S => S)
  · -- h4F
   try simp only [decide_eq_true_eq, decide_eq_false_iff_not, Bool.not_eq_eq_eq_not, Bool.not_true, Bool.not_false, Bool.not_eq_true', Bool.not_eq_false', Int.not_lt, Int.not_le, Bool.or_eq_true, Bool.and_eq_true] at h4
   refine c_skip ?_
   refine q_then ?_
   refine c_seq ?_
   refine c_region ?_
   refine o_move rfl rfl ?_
   refine o_nil rfl rfl ?_
   refine o_fieldAddr (q := ⟨k, 0, none⟩) rfl rfl Tryz.underlying104 rfl ti34 rfl ?_
   refine o_load1 rfl rfl Tryz.underlying34 rfl (rd_mem 0 rfl rfl) ?_
   refine o_move rfl rfl ?_
   refine o_cut (l' := 0) (h' := ((numR 0 0 ys).1)) (m := cy14) rfl rfl Tryz.underlying34 ti5 (.inl ⟨rfl, rfl⟩) (.inr ⟨_, _, rfl, icast rfl rfl, (by omega)⟩) (.inl ⟨rfl, rfl⟩) ?_
   obtain ⟨ys41, ay41, cut41, hys41, hlys41, eay41⟩ : ∃ ys_ ay_, (∀ {L : List Res}, RdS W L e8 ay14 ys14 → RdS W L e8 ay_ ys_) ∧ ys_ = sub ys14 0 ((numR 0 0 ys).1) ∧ ys_.length = ((numR 0 0 ys).1) - 0 ∧ cutA ay14 cy14 0 1 = ay_ := ⟨_, _, fun h => rds_cut e8_ok h _ _ _ (by omega), rfl, sub_len (by omega), rfl⟩
   refine l_eq (t := 41) (v' := .slice ay41 ys41.length (cy14 - 0)) rfl (by rw [eay41, hlys41]) ?_
   refine o_call rfl cal46 rfl (clone8p (cut41 (ok14.cut (rds_own e8_ok 1 rfl))) (by omega)) ?_
   rintro _ _ ⟨a42, c42, rfl, rfl⟩
   refine o_assign rfl rfl ?_
   refine l_nil ?_
   refine q_then ?_
   refine c_seq ?_
   refine c_region ?_
   refine o_move rfl rfl ?_
   refine o_move rfl rfl ?_
   refine o_nil rfl rfl ?_
   refine o_fieldAddr (q := ⟨k, 0, none⟩) rfl rfl Tryz.underlying104 rfl ti34 rfl ?_
   refine o_load1 rfl rfl Tryz.underlying34 rfl (rd_mem 1 rfl rfl) ?_
   refine o_move rfl rfl ?_
   refine o_cut (l' := ((numR 0 0 ys).1)) (h' := ((ys14).length)) (m := cy14) rfl rfl Tryz.underlying34 ti5 (.inl ⟨rfl, rfl⟩) (.inl ⟨rfl, rfl, rfl⟩) (.inr ⟨_, _, rfl, icast rfl rfl, (by omega)⟩) ?_
   obtain ⟨ys49, ay49, cut49, hys49, hlys49, eay49⟩ : ∃ ys_ ay_, (∀ {L : List Res}, RdS W L e8 ay14 ys14 → RdS W L e8 ay_ ys_) ∧ ys_ = sub ys14 ((numR 0 0 ys).1) ((ys14).length) ∧ ys_.length = ((ys14).length) - ((numR 0 0 ys).1) ∧ cutA ay14 cy14 ((numR 0 0 ys).1) 1 = ay_ := ⟨_, _, fun h => rds_cut e8_ok h _ _ _ (by omega), rfl, sub_len (by omega), rfl⟩
   refine l_eq (t := 49) (v' := .slice ay49 ys49.length (cy14 - ((numR 0 0 ys).1))) rfl (by rw [eay49, hlys49]) ?_
   refine o_nil rfl rfl ?_
   refine o_fieldAddr (q := ⟨k, 0, none⟩) rfl rfl Tryz.underlying104 rfl ti34 rfl ?_
   refine l_f1 ?_
   refine o_store1 rfl rfl rfl ti34 rfl rfl ?_
   refine l_nil ?_
   refine q_then ?_
   refine c_seq ?_
   refine c_region ?_
   refine o_move rfl rfl ?_
   refine o_assign rfl rfl ?_
   refine o_assign rfl rfl ?_
   refine l_nil ?_
   refine q_then ?_
   refine c_ret ?_
   refine q_conv (fun w S => S.perm p2) ?_
   refine q_conv (fun w S => S.perm p1) ?_
   refine q_conv (fun w S => S.perm p2) ?_
   exact f_ret (r_two rfl rfl rfl) (⟨ys41, ys49, ay49, _, a42, c42, by rw [hys41, h14, sub_drop, textR_ok (by omega) (by omega)], by rw [textR_ok (by omega) (by omega), hys49, ← eay49, ← Nat.add_assoc]; exact ok14.on (u := (numR 0 0 ys).1) (by omega), by rw [textR_ok (by omega) (by omega)]; rfl, rfl⟩) (fun w S => S)
end
section
set_option linter.unusedVariables false
set_option linter.unusedSimpArgs false
set_option maxRecDepth 10000
open Go.RowKit Classical
theorem EyeOk.next {W : World} {a ay ay' : Option Addr} {bs ys ys' : List UInt8} {i cy cy' u : Nat} (h : EyeOk W a bs i ys ay cy) (h' : EyeOk W a bs (i + u) ys' ay' cy') : ys' = ys.drop u := by rw [h'.is, h.is, List.drop_drop]
theorem rnum_ {W : World} {F : List Res} {k i : Nat} {bs ys : List UInt8} {a ay : Option Addr} {c cy : Nat} (ok : EyeOk W a bs i ys ay cy) : CS Tryz.prog 52 #[.agg #[.pointer (some ⟨k, 0, none⟩)]] W (blk k (.cells #[.slice ay (ys).length cy] 104 (0, 0)) :: row e8.T e8.sz a (bs).length c (flat e8 bs) :: F) (fun r L' => ∃ (ys' : List UInt8) (ay' : Option Addr) (cy' : Nat), EyeOk W a bs (i + (numR 0 0 ys).2.2) ys' ay' cy' ∧ r = .int .u64 ((numR 0 0 ys).1 : Int) ∧ L' = blk k (.cells #[.slice ay' (ys').length cy'] 104 (0, 0)) :: row e8.T e8.sz a (bs).length c (flat e8 bs) :: F) := by
 refine f_door (l0 := [(0, .agg #[.pointer (some ⟨k, 0, none⟩)])]) Tryz.func52 Tryz.ntmps52 rfl rfl rfl ?_
 refine c_seq ?_
 refine c_region ?_
 refine o_box rfl rfl fun b1 => ?_
 refine o_assign rfl rfl ?_
 refine l_nil ?_
 refine q_then ?_
 refine c_seq ?_
 refine c_region ?_
 refine o_fieldAddr (q := ⟨b1, 0, none⟩) rfl rfl Tryz.underlying76 rfl ti73 rfl ?_
 refine o_load1 rfl rfl Tryz.underlying73 rfl (rd_mem 0 rfl rfl) ?_
 refine l_f2 ?_
 refine l_f2 ?_
 refine o_call rfl cal59 rfl (eyeNum ok) ?_
 rintro _ _ ⟨ys8, ay8, cy8, ok8, rfl, rfl⟩
 have dr8 : ys8 = ys.drop (numR 0 0 ys).2.2 := EyeOk.next ok ok8
 refine o_move rfl rfl ?_
 refine o_extract rfl rfl rfl ?_
 refine o_extract rfl rfl rfl ?_
 refine o_assign rfl rfl ?_
 refine o_assign rfl rfl ?_
 refine l_nil ?_
 refine q_then ?_
 refine c_seq ?_
 refine c_region ?_
 refine o_move rfl rfl ?_
 refine o_assign rfl rfl ?_
 refine l_nil ?_
 refine q_then ?_
 refine c_ret ?_
 refine q_conv (fun w S => (S.perm p2).tail) ?_
 exact f_ret (r_one rfl rfl) (⟨_, _, _, ok8, rfl, rfl⟩) (fun w S => S)
theorem rsmall_ {W : World} {F : List Res} {k i : Nat} {bs ys : List UInt8} {a ay : Option Addr} {c cy : Nat} (ok : EyeOk W a bs i ys ay cy) : CS Tryz.prog 36 #[.agg #[.pointer (some ⟨k, 0, none⟩)]] W (blk k (.cells #[.slice ay (ys).length cy] 104 (0, 0)) :: row e8.T e8.sz a (bs).length c (flat e8 bs) :: F) (fun r L' => ∃ (ys' : List UInt8) (ay' : Option Addr) (cy' : Nat), EyeOk W a bs (i + (numR 0 0 ys).2.2) ys' ay' cy' ∧ r = .int .i64 (smR ys) ∧ L' = blk k (.cells #[.slice ay' (ys').length cy'] 104 (0, 0)) :: row e8.T e8.sz a (bs).length c (flat e8 bs) :: F) := by
 refine f_door (l0 := [(0, .agg #[.pointer (some ⟨k, 0, none⟩)])]) Tryz.func36 Tryz.ntmps36 rfl rfl rfl ?_
 refine c_seq ?_
 refine c_region ?_
 refine o_box rfl rfl fun b1 => ?_
 refine o_assign rfl rfl ?_
 refine l_nil ?_
 refine q_then ?_
 refine c_seq ?_
 refine c_region ?_
 refine o_fieldAddr (q := ⟨b1, 0, none⟩) rfl rfl Tryz.underlying76 rfl ti73 rfl ?_
 refine o_load1 rfl rfl Tryz.underlying73 rfl (rd_mem 0 rfl rfl) ?_
 refine l_f2 ?_
 refine l_f2 ?_
 refine o_call rfl cal59 rfl (eyeNum ok) ?_
 rintro _ _ ⟨ys8, ay8, cy8, ok8, rfl, rfl⟩
 have dr8 : ys8 = ys.drop (numR 0 0 ys).2.2 := EyeOk.next ok ok8
 refine o_move rfl rfl ?_
 refine o_extract rfl rfl rfl ?_
 refine o_extract rfl rfl rfl ?_
 refine o_assign rfl rfl ?_
 refine o_assign rfl rfl ?_
 refine l_nil ?_
 refine q_then ?_
 refine c_seq ?_
 refine c_region ?_
 refine o_move rfl rfl ?_
 refine o_min rfl rfl rfl Tryz.underlying22 ?_
 refine o_int rfl rfl Tryz.underlying22 Tryz.underlying3 (show IntKind.i64.wrap (min ((numR 0 0 ys).1 : Int) 2147483647) = smR ys from by unfold smR; rw [wrap_i64 (by omega) (by omega)]; omega) ?_
 refine o_assign rfl rfl ?_
 refine l_nil ?_
 refine q_then ?_
 refine c_ret ?_
 refine q_conv (fun w S => (S.perm p2).tail) ?_
 exact f_ret (r_one rfl rfl) (⟨_, _, _, ok8, rfl, rfl⟩) (fun w S => S)
theorem rtext_ {W : World} {F : List Res} {k i : Nat} {bs ys : List UInt8} {a ay : Option Addr} {c cy : Nat} (ok : EyeOk W a bs i ys ay cy) : CS Tryz.prog 54 #[.agg #[.pointer (some ⟨k, 0, none⟩)]] W (blk k (.cells #[.slice ay (ys).length cy] 104 (0, 0)) :: row e8.T e8.sz a (bs).length c (flat e8 bs) :: F) (fun r L' => ∃ (out ys' : List UInt8) (ay' : Option Addr) (cy' : Nat) (a2 : Option Addr) (c2 : Nat), out = (textR ys).1 ∧ EyeOk W a bs (i + (textR ys).2.2) ys' ay' cy' ∧ r = .slice a2 out.length c2 ∧ L' = row e8.T e8.sz a2 (out).length c2 (flat e8 out) :: blk k (.cells #[.slice ay' (ys').length cy'] 104 (0, 0)) :: row e8.T e8.sz a (bs).length c (flat e8 bs) :: F) := by
 refine f_door (l0 := [(0, .agg #[.pointer (some ⟨k, 0, none⟩)])]) Tryz.func54 Tryz.ntmps54 rfl rfl rfl ?_
 refine c_seq ?_
 refine c_region ?_
 refine o_box rfl rfl fun b1 => ?_
 refine o_assign rfl rfl ?_
 refine l_nil ?_
 refine q_then ?_
 refine c_seq ?_
 refine c_region ?_
 refine o_fieldAddr (q := ⟨b1, 0, none⟩) rfl rfl Tryz.underlying76 rfl ti73 rfl ?_
 refine o_load1 rfl rfl Tryz.underlying73 rfl (rd_mem 0 rfl rfl) ?_
 refine l_f2 ?_
 refine l_f2 ?_
 refine o_call rfl cal72 rfl (eyeText ok) ?_
 rintro _ _ ⟨out8, ys8, ay8, cy8, a8, c8, hout8, ok8, rfl, rfl⟩
 have dr8 : ys8 = ys.drop (textR ys).2.2 := EyeOk.next ok ok8
 refine o_move rfl rfl ?_
 refine o_extract rfl rfl rfl ?_
 refine o_extract rfl rfl rfl ?_
 refine o_assign rfl rfl ?_
 refine o_assign rfl rfl ?_
 refine l_nil ?_
 refine q_then ?_
 refine c_seq ?_
 refine c_region ?_
 refine o_move rfl rfl ?_
 refine o_assign rfl rfl ?_
 refine l_nil ?_
 refine q_then ?_
 refine c_ret ?_
 refine q_conv (fun w S => (S.perm p3).tail) ?_
 exact f_ret (r_one rfl rfl) (⟨out8, _, _, _, _, _, hout8, ok8, rfl, rfl⟩) (fun w S => S)
end
section
set_option linter.unusedVariables false
set_option linter.unusedSimpArgs false
set_option maxRecDepth 10000
open Go.RowKit Classical
theorem back_ {W : World} {F : List Res} {n : Nat} (hn : n < 18446744073709551616) : CS Tryz.prog 55 #[.int .u64 (n : Int)] W (F) (fun r L' => r = .int .i64 (unzig (n : Int)) ∧ F = L') := by
 refine f_door (l0 := [(0, .int .u64 (n : Int))]) Tryz.func55 Tryz.ntmps55 rfl rfl rfl ?_
 refine c_seq ?_
 refine c_region ?_
 refine o_assign rfl rfl ?_
 refine l_nil ?_
 refine q_then ?_
 refine c_seq ?_
 refine c_region ?_
 refine o_move rfl rfl ?_
 refine o_bin rfl rfl rfl (b_shr (by omega) (show (n : Int).fdiv (2 ^ (min (1 : Int).toNat IntKind.u64.bits)) = ((n / 2 : Nat) : Int) from by rw [show (2 : Int) ^ (min (1 : Int).toNat IntKind.u64.bits) = 2 by decide, Int.fdiv_eq_ediv_of_nonneg _ (by omega)]; omega)) ?_
 refine o_int rfl rfl Tryz.underlying22 Tryz.underlying2 (wrap_i64 (by omega) (by omega)) ?_
 refine o_move rfl rfl ?_
 refine o_bin rfl rfl rfl (b_and (and1 hn)) ?_
 refine o_int rfl rfl Tryz.underlying22 Tryz.underlying2 (wrap_i64 (by omega) (by omega)) ?_
 refine o_neg rfl rfl (wrap_i64 (by omega) (by omega)) ?_
 refine o_bin rfl rfl rfl (b_xor (back_unzig hn)) ?_
 refine o_assign rfl rfl ?_
 refine l_nil ?_
 refine q_then ?_
 refine c_ret ?_
 exact f_ret (r_one rfl rfl) (⟨rfl, rfl⟩) (fun w S => S)
set_option maxHeartbeats 1000000 in
theorem rtexts_ {W : World} {F : List Res} {k i : Nat} {bs ys : List UInt8} {a ay : Option Addr} {c cy : Nat} (ok : EyeOk W a bs i ys ay cy) : CS Tryz.prog 53 #[.agg #[.pointer (some ⟨k, 0, none⟩)]] W (blk k (.cells #[.slice ay (ys).length cy] 104 (0, 0)) :: row e8.T e8.sz a (bs).length c (flat e8 bs) :: F) (fun r L' => ∃ (out : List ByteArray) (ys' : List UInt8) (ay' : Option Addr) (cy' i' : Nat) (a2 : Option Addr) (c2 : Nat), out.length ≤ 9 ∧ (∀ ss rest, TxGood ss rest ys → out = ss ∧ ys' = rest) ∧ EyeOk W a bs i' ys' ay' cy' ∧ r = .slice a2 out.length c2 ∧ L' = row e_S.T e_S.sz a2 (out).length c2 (flat e_S out) :: blk k (.cells #[.slice ay' (ys').length cy'] 104 (0, 0)) :: row e8.T e8.sz a (bs).length c (flat e8 bs) :: F) := by
 refine f_door (l0 := [(0, .agg #[.pointer (some ⟨k, 0, none⟩)])]) Tryz.func53 Tryz.ntmps53 rfl rfl rfl ?_
 refine c_seq ?_
 refine c_region ?_
 refine o_box rfl rfl fun b1 => ?_
 refine o_assign rfl rfl ?_
 refine l_nil ?_
 refine q_then ?_
 refine c_seq ?_
 refine c_seq ?_
 refine c_nilrow e_S ?_
 refine c_region ?_
 refine o_loadn (vs := [_]) rfl rfl Tryz.underlying76 rfl ti76 (rdn_lit 1 rfl rfl) ?_
 refine l_f3 ?_
 refine l_f3 ?_
 refine o_call rfl cal36 rfl (rsmall_ ok) ?_
 rintro _ _ ⟨ys4, ay4, cy4, ok4, rfl, rfl⟩
 have dr4 : ys4 = ys.drop (numR 0 0 ys).2.2 := EyeOk.next ok ok4
 refine o_min rfl rfl rfl Tryz.underlying3 ?_
 obtain ⟨n, hn⟩ : ∃ n : Nat, (n : Int) = min (smR ys) 9 := ⟨(min (smR ys) 9).toNat, by have := smR_0 ys; omega⟩
 refine l_eq (t := 5) (v' := .int .i64 (n : Int)) rfl (by exact congrArg (Value.int .i64) hn.symm) ?_
 refine o_move rfl rfl ?_
 refine l_nil ?_
 refine q_then ?_
 refine c_block ?_
 refine c_loop (α := Nat × (List ByteArray) × (Option Addr) × Nat × (List UInt8) × (Option Addr) × Nat × Nat) (fun z => [(1, .pointer (some ⟨b1, 0, none⟩)), (2, .slice z.2.2.1 (z.2.1).length z.2.2.2.1), (5, .int .i64 (n : Int)), (6, .int .i64 (z.1 : Int))]) (fun z => blk k (.cells #[.slice z.2.2.2.2.2.1 (z.2.2.2.2.1).length z.2.2.2.2.2.2.1] 104 (0, 0)) :: row e8.T e8.sz a (bs).length c (flat e8 bs) :: row e_S.T e_S.sz z.2.2.1 (z.2.1).length z.2.2.2.1 (flat e_S z.2.1) :: blk b1 (.cells #[.pointer (some ⟨k, 0, none⟩)] 76 (0, 0)) :: F) (fun z => z.1 ≤ n ∧ EyeOk W a bs z.2.2.2.2.2.2.2 z.2.2.2.2.1 z.2.2.2.2.2.1 z.2.2.2.2.2.2.1 ∧ TxInv ys n z.1 z.2.1 z.2.2.2.2.1) (fun z => n - z.1) (0, [], none, 0, ys4, ay4, cy4, _) (by exact ⟨Nat.zero_le _, ok4, TxInv.start hn dr4⟩) ⟨(by first | rfl | exact vint (by omega)), (by first | rfl | exact vint (by omega)), (by first | rfl | exact vint (by omega)), (by first | rfl | exact vint (by omega)), trivial⟩ (fun w S => S) ?_
 rintro ⟨j, out, a8, c8, ye, ae, ce, ei⟩ ⟨hj, oke, hT⟩
 try dsimp only at *
 have hol := hT.len
 have hn9 : n ≤ 9 := by omega
 refine c_seq ?_
 refine c_region ?_
 refine o_bin rfl rfl rfl b_lss ?_
 refine l_nil ?_
 refine q_then ?_
 refine c_seq ?_
 refine c_cond rfl (fun h1 => ?_) (fun h1 => ?_)
 · -- h1T
  have h1b := h1
  try simp only [decide_eq_true_eq] at h1
  refine c_skip ?_
  refine q_then ?_
  refine c_seq ?_
  refine c_block ?_
  refine c_region ?_
  refine o_move rfl rfl ?_
  refine o_loadn (vs := [_]) rfl rfl Tryz.underlying76 rfl ti76 (rdn_lit 3 rfl rfl) ?_
  refine l_f1 ?_
  refine l_f1 ?_
  refine o_call rfl cal54 rfl (rtext_ oke) ?_
  rintro _ _ ⟨out10, ys10, ay10, cy10, a10, c10, hout10, ok10, rfl, rfl⟩
  have dr10 : ys10 = ye.drop (textR ye).2.2 := EyeOk.next oke ok10
  refine o_bytesStr (e := e8) rfl rfl rfl Tryz.underlying34 Tryz.underlying5 Tryz.underlying9 (rds_own e8_ok 0 rfl) ?_
  refine o_lit e_S_ok rfl Tryz.underlying27 rfl rfl rfl (lit_ok rfl) [bts out10] rfl rfl fun a12 => ?_
  refine l_f4 ?_
  refine o_append e_S_ok rfl rfl rfl Tryz.underlying27 (rds_own e_S_ok 1 rfl) (by show (_ + _) * 16 ≤ _; (try simp only [List.length_append, List.length_cons, List.length_nil]); omega) (by (try simp only [List.length_append, List.length_cons, List.length_nil]); omega) fun a13 c13 => ?_
  refine l_f1 ?_
  refine l_drop ?_
  refine o_assign rfl rfl ?_
  refine l_nil ?_
  refine q_block ?_
  refine q_then ?_
  refine c_region ?_
  refine o_bin rfl rfl rfl (b_add (wrap_i64 (by omega) (by omega))) ?_
  refine o_move rfl rfl ?_
  refine l_nil ?_
  refine q_conv (fun w S => (S.perm p1).tail) ?_
  refine q_conv (fun w S => S.perm p3) ?_
  refine q_conv (fun w S => S.perm p1) ?_
  refine q_conv (fun w S => S.perm p3) ?_
  refine q_conv (fun w S => S.perm p3) ?_
  exact q_round (j + 1, out ++ [bts out10], a13, c13, ys10, ay10, cy10, _) (by exact ⟨by omega, ok10, by have h9 := hT.on (by omega) dr10; rw [← hout10] at h9; exact h9⟩) (by (try dsimp only); omega) ⟨(by first | rfl | exact vint (by omega)), (by first | rfl | exact vint (by omega)), (by first | rfl | exact vint (by omega)), (by first | rfl | exact vint (by omega)), trivial⟩ (fun w S => S)
 · -- h1F
  have h1b := h1
  try simp only [decide_eq_false_iff_not, Int.not_lt, Int.not_le] at h1
  refine c_exit ?_
  refine q_pass_exit ?_
  refine q_pass_exit ?_
  refine q_hit ?_
  refine q_then ?_
  refine c_seq ?_
  refine c_region ?_
  refine o_move rfl rfl ?_
  refine o_assign rfl rfl ?_
  refine l_nil ?_
  refine q_then ?_
  refine c_ret ?_
  refine q_conv (fun w S => (S.perm p3).tail) ?_
  refine q_conv (fun w S => S.perm p1) ?_
  refine q_conv (fun w S => S.perm p1) ?_
  refine q_conv (fun w S => S.perm p2) ?_
  exact f_ret (r_one rfl rfl) (⟨out, ye, ae, ce, ei, a8, c8, by have h9 := hT.len; omega, hT.fin (by omega), oke, rfl, rfl⟩) (fun w S => S)
end
section
set_option linter.unusedVariables false
set_option linter.unusedSimpArgs false
set_option maxRecDepth 10000
open Go.RowKit Classical
theorem vals_rv {W : World} {L : List Res} {os : List Op} (i : Nat) (h : L[i]? = some (stars ((os.map Op.f_Value).map (vrow e8)))) : ∀ o ∈ os, RdS W L e8 o.f_Value.a o.f_Value.xs := fun o ho => rds_stars e8_ok i h (List.mem_map.2 ⟨o.f_Value, List.mem_map.2 ⟨o, ho, rfl⟩, rfl⟩)
set_option maxHeartbeats 4000000 in
theorem rorder_ {W : World} {F : List Res} {k i : Nat} {bs ys : List UInt8} {a ay : Option Addr} {c cy : Nat} (ok : EyeOk W a bs i ys ay cy) : CS Tryz.prog 28 #[.agg #[.pointer (some ⟨k, 0, none⟩)]] W (blk k (.cells #[.slice ay (ys).length cy] 104 (0, 0)) :: row e8.T e8.sz a (bs).length c (flat e8 bs) :: F) (fun r L' => ∃ (q : Order) (ys' : List UInt8) (ay' : Option Addr) (cy' i' : Nat), OWf q ∧ OrdLen q ∧ (q.f_Txn_Reads.xs.length ≤ 9 ∧ q.f_Txn_Writes.xs.length ≤ 9 ∧ q.f_Txn_Ops.xs.length ≤ 17 ∧ q.f_Marks.xs.length ≤ 18) ∧ (∀ o, GoodO o ys → SameO q o) ∧ EyeOk W a bs i' ys' ay' cy' ∧ r = .agg (e_Order.cells q).toArray ∧ L' = ordM q :: blk k (.cells #[.slice ay' (ys').length cy'] 104 (0, 0)) :: row e8.T e8.sz a (bs).length c (flat e8 bs) :: F) := by
 refine f_door (l0 := [(0, .agg #[.pointer (some ⟨k, 0, none⟩)])]) Tryz.func28 Tryz.ntmps28 rfl rfl rfl ?_
 refine c_seq ?_
 refine c_region ?_
 refine o_box rfl rfl fun b1 => ?_
 refine o_alloc rfl ti33 fun b2 => ?_
 refine l_nil ?_
 refine q_then ?_
 refine c_seq ?_
 refine c_conv (fun w S => S.perm p2) ?_
 refine c_conv (fun w S => S.perm p1) ?_
 refine c_conv (fun w S => S.perm p3) ?_
 refine c_conv (fun w S => S.perm p3) ?_
 refine c_held [blk b1 (.cells #[.pointer (some ⟨k, 0, none⟩)] 76 (0, 0)), row e8.T e8.sz a (bs).length c (flat e8 bs)] (by kernel_rfl) rfl ?_
 refine h_take 0 rfl rfl (by kernel_rfl) (by kernel_rfl) (by kernel_rfl) (fun L0 => v_loadn (vs := [_]) rfl rfl Tryz.underlying76 rfl ti76 (rdn_lit 0 rfl rfl)) ?_
 refine h_take 2 rfl rfl (by kernel_rfl) (by kernel_rfl) (by kernel_rfl) (fun L0 => v_loadn (vs := [_]) rfl rfl Tryz.underlying76 rfl ti76 (rdn_lit 0 rfl rfl)) ?_
 refine h_take 4 rfl rfl (by kernel_rfl) (by kernel_rfl) (by kernel_rfl) (fun L0 => v_loadn (vs := [_]) rfl rfl Tryz.underlying76 rfl ti76 (rdn_lit 0 rfl rfl)) ?_
 refine h_take 6 rfl rfl (by kernel_rfl) (by kernel_rfl) (by kernel_rfl) (fun L0 => v_loadn (vs := [_]) rfl rfl Tryz.underlying76 rfl ti76 (rdn_lit 0 rfl rfl)) ?_
 refine h_one 1 rfl (by kernel_rfl) ?_
 refine l_f1 ?_
 refine l_f3 ?_
 refine o_call rfl cal36 rfl (rsmall_ ok) ?_
 rintro _ _ ⟨ys8, ay8, cy8, ok8, rfl, rfl⟩
 have dr8 : ys8 = ys.drop (numR 0 0 ys).2.2 := EyeOk.next ok ok8
 refine l_nil ?_
 refine q_conv (fun w S => S.perm p3) ?_
 refine q_conv (fun w S => S.perm p1) ?_
 refine q_conv (fun w S => S.perm p2) ?_
 refine q_conv (fun w S => S.perm p3) ?_
 refine h_next ?_
 refine h_take 8 rfl rfl (by kernel_rfl) (by kernel_rfl) (by kernel_rfl) (fun L0 => v_fieldAddr (q := ⟨b2, 0, none⟩) rfl rfl Tryz.underlying33 rfl ti26 rfl) ?_
 refine h_take 9 rfl rfl (by kernel_rfl) (by kernel_rfl) (by kernel_rfl) (fun L0 => v_fieldAddr (q := ⟨b2, 0, none⟩) rfl rfl Tryz.underlying26 rfl ti24 rfl) ?_
 refine h_take 10 rfl rfl (by kernel_rfl) (by kernel_rfl) (by kernel_rfl) (fun L0 => v_fieldAddr (q := ⟨b2, 0, none⟩) rfl rfl Tryz.underlying24 rfl ti3 rfl) ?_
 refine h_one 3 rfl (by kernel_rfl) ?_
 refine l_f1 ?_
 refine l_f2 ?_
 refine o_call rfl cal52 rfl (rnum_ ok8) ?_
 rintro _ _ ⟨ys10, ay10, cy10, ok10, rfl, rfl⟩
 have dr10 : ys10 = ys8.drop (numR 0 0 ys8).2.2 := EyeOk.next ok8 ok10
 refine l_nil ?_
 refine q_conv (fun w S => S.perm p3) ?_
 refine q_conv (fun w S => S.perm p1) ?_
 refine q_conv (fun w S => S.perm p2) ?_
 refine q_conv (fun w S => S.perm p3) ?_
 refine h_next ?_
 refine h_one 5 rfl (by kernel_rfl) ?_
 refine l_f1 ?_
 refine l_f2 ?_
 refine o_call rfl cal52 rfl (rnum_ ok10) ?_
 rintro _ _ ⟨ys12, ay12, cy12, ok12, rfl, rfl⟩
 have dr12 : ys12 = ys10.drop (numR 0 0 ys10).2.2 := EyeOk.next ok10 ok12
 refine l_nil ?_
 refine q_conv (fun w S => S.perm p3) ?_
 refine q_conv (fun w S => S.perm p1) ?_
 refine q_conv (fun w S => S.perm p2) ?_
 refine q_conv (fun w S => S.perm p3) ?_
 refine h_next ?_
 refine h_one 7 rfl (by kernel_rfl) ?_
 refine l_f1 ?_
 refine l_f2 ?_
 refine o_call rfl cal36 rfl (rsmall_ ok12) ?_
 rintro _ _ ⟨ys14, ay14, cy14, ok14, rfl, rfl⟩
 have dr14 : ys14 = ys12.drop (numR 0 0 ys12).2.2 := EyeOk.next ok12 ok14
 refine l_nil ?_
 refine q_conv (fun w S => S.perm p3) ?_
 refine q_conv (fun w S => S.perm p1) ?_
 refine q_conv (fun w S => S.perm p2) ?_
 refine q_conv (fun w S => S.perm p3) ?_
 refine h_next ?_
 refine h_one 11 rfl (by kernel_rfl) ?_
 refine l_f3 ?_
 refine o_store1 rfl rfl rfl ti3 rfl rfl ?_
 refine l_nil ?_
 refine q_conv (fun w S => S.perm p3) ?_
 refine q_conv (fun w S => S.perm p1) ?_
 refine q_conv (fun w S => S.perm p3) ?_
 refine q_conv (fun w S => S.perm p3) ?_
 refine h_next ?_
 refine h_take 12 rfl rfl (by kernel_rfl) (by kernel_rfl) (by kernel_rfl) (fun L0 => v_fieldAddr (q := ⟨b2, 0, none⟩) rfl rfl Tryz.underlying33 rfl ti26 rfl) ?_
 refine h_take 13 rfl rfl (by kernel_rfl) (by kernel_rfl) (by kernel_rfl) (fun L0 => v_fieldAddr (q := ⟨b2, 0, none⟩) rfl rfl Tryz.underlying26 rfl ti24 rfl) ?_
 refine h_take 14 rfl rfl (by kernel_rfl) (by kernel_rfl) (by kernel_rfl) (fun L0 => v_fieldAddr (q := ⟨b2, 1, none⟩) rfl rfl Tryz.underlying24 rfl ti22 rfl) ?_
 refine h_one 15 rfl (by kernel_rfl) ?_
 refine l_f2 ?_
 refine o_store1 rfl rfl rfl ti22 rfl rfl ?_
 refine l_nil ?_
 refine q_conv (fun w S => S.perm p3) ?_
 refine q_conv (fun w S => S.perm p1) ?_
 refine q_conv (fun w S => S.perm p3) ?_
 refine q_conv (fun w S => S.perm p3) ?_
 refine h_next ?_
 refine h_take 16 rfl rfl (by kernel_rfl) (by kernel_rfl) (by kernel_rfl) (fun L0 => v_fieldAddr (q := ⟨b2, 0, none⟩) rfl rfl Tryz.underlying33 rfl ti26 rfl) ?_
 refine h_take 17 rfl rfl (by kernel_rfl) (by kernel_rfl) (by kernel_rfl) (fun L0 => v_fieldAddr (q := ⟨b2, 0, none⟩) rfl rfl Tryz.underlying26 rfl ti24 rfl) ?_
 refine h_take 18 rfl rfl (by kernel_rfl) (by kernel_rfl) (by kernel_rfl) (fun L0 => v_fieldAddr (q := ⟨b2, 2, none⟩) rfl rfl Tryz.underlying24 rfl ti22 rfl) ?_
 refine h_one 19 rfl (by kernel_rfl) ?_
 refine l_f2 ?_
 refine o_store1 rfl rfl rfl ti22 rfl rfl ?_
 refine l_nil ?_
 refine q_conv (fun w S => S.perm p3) ?_
 refine q_conv (fun w S => S.perm p1) ?_
 refine q_conv (fun w S => S.perm p3) ?_
 refine q_conv (fun w S => S.perm p3) ?_
 refine h_next ?_
 refine h_take 20 rfl rfl (by kernel_rfl) (by kernel_rfl) (by kernel_rfl) (fun L0 => v_fieldAddr (q := ⟨b2, 0, none⟩) rfl rfl Tryz.underlying33 rfl ti26 rfl) ?_
 refine h_take 21 rfl rfl (by kernel_rfl) (by kernel_rfl) (by kernel_rfl) (fun L0 => v_fieldAddr (q := ⟨b2, 3, none⟩) rfl rfl Tryz.underlying26 rfl ti3 rfl) ?_
 refine h_one 22 rfl (by kernel_rfl) ?_
 refine l_f2 ?_
 refine o_store1 rfl rfl rfl ti3 rfl rfl ?_
 refine l_nil ?_
 refine q_conv (fun w S => S.perm p3) ?_
 refine q_conv (fun w S => S.perm p1) ?_
 refine q_conv (fun w S => S.perm p3) ?_
 refine q_conv (fun w S => S.perm p3) ?_
 refine h_next ?_
 refine h_done (by kernel_rfl) ?_
 refine q_then ?_
 refine c_seq ?_
 refine c_held [blk b1 (.cells #[.pointer (some ⟨k, 0, none⟩)] 76 (0, 0)), row e8.T e8.sz a (bs).length c (flat e8 bs)] (by kernel_rfl) rfl ?_
 refine h_take 0 rfl rfl (by kernel_rfl) (by kernel_rfl) (by kernel_rfl) (fun L0 => v_loadn (vs := [_]) rfl rfl Tryz.underlying76 rfl ti76 (rdn_lit 0 rfl rfl)) ?_
 refine h_take 2 rfl rfl (by kernel_rfl) (by kernel_rfl) (by kernel_rfl) (fun L0 => v_loadn (vs := [_]) rfl rfl Tryz.underlying76 rfl ti76 (rdn_lit 0 rfl rfl)) ?_
 refine h_take 4 rfl rfl (by kernel_rfl) (by kernel_rfl) (by kernel_rfl) (fun L0 => v_loadn (vs := [_]) rfl rfl Tryz.underlying76 rfl ti76 (rdn_lit 0 rfl rfl)) ?_
 refine h_take 6 rfl rfl (by kernel_rfl) (by kernel_rfl) (by kernel_rfl) (fun L0 => v_loadn (vs := [_]) rfl rfl Tryz.underlying76 rfl ti76 (rdn_lit 0 rfl rfl)) ?_
 refine h_one 1 rfl (by kernel_rfl) ?_
 refine l_f1 ?_
 refine l_f3 ?_
 refine o_call rfl cal36 rfl (rsmall_ ok14) ?_
 rintro _ _ ⟨ys27, ay27, cy27, ok27, rfl, rfl⟩
 have dr27 : ys27 = ys14.drop (numR 0 0 ys14).2.2 := EyeOk.next ok14 ok27
 refine l_nil ?_
 refine q_conv (fun w S => S.perm p3) ?_
 refine q_conv (fun w S => S.perm p1) ?_
 refine q_conv (fun w S => S.perm p2) ?_
 refine q_conv (fun w S => S.perm p3) ?_
 refine h_next ?_
 refine h_take 8 rfl rfl (by kernel_rfl) (by kernel_rfl) (by kernel_rfl) (fun L0 => v_fieldAddr (q := ⟨b2, 4, none⟩) rfl rfl Tryz.underlying33 rfl ti30 rfl) ?_
 refine h_take 9 rfl rfl (by kernel_rfl) (by kernel_rfl) (by kernel_rfl) (fun L0 => v_fieldAddr (q := ⟨b2, 4, none⟩) rfl rfl Tryz.underlying30 rfl ti3 rfl) ?_
 refine h_one 3 rfl (by kernel_rfl) ?_
 refine l_f1 ?_
 refine l_f2 ?_
 refine o_call rfl cal36 rfl (rsmall_ ok27) ?_
 rintro _ _ ⟨ys29, ay29, cy29, ok29, rfl, rfl⟩
 have dr29 : ys29 = ys27.drop (numR 0 0 ys27).2.2 := EyeOk.next ok27 ok29
 refine l_nil ?_
 refine q_conv (fun w S => S.perm p3) ?_
 refine q_conv (fun w S => S.perm p1) ?_
 refine q_conv (fun w S => S.perm p2) ?_
 refine q_conv (fun w S => S.perm p3) ?_
 refine h_next ?_
 refine h_one 5 rfl (by kernel_rfl) ?_
 refine l_f1 ?_
 refine l_f2 ?_
 refine o_call rfl cal53 rfl (rtexts_ ok29) ?_
 rintro _ _ ⟨out31, ys31, ay31, cy31, i31, a31, c31, hln31, htx31, ok31, rfl, rfl⟩
 refine l_nil ?_
 refine q_conv (fun w S => S.perm p4) ?_
 refine q_conv (fun w S => S.perm p2) ?_
 refine q_conv (fun w S => S.perm p2) ?_
 refine q_conv (fun w S => S.perm p3) ?_
 refine q_conv (fun w S => S.perm p4) ?_
 refine h_next ?_
 refine h_one 7 rfl (by kernel_rfl) ?_
 refine l_f1 ?_
 refine l_f3 ?_
 refine o_call rfl cal53 rfl (rtexts_ ok31) ?_
 rintro _ _ ⟨out33, ys33, ay33, cy33, i33, a33, c33, hln33, htx33, ok33, rfl, rfl⟩
 refine l_nil ?_
 refine q_conv (fun w S => S.perm p5) ?_
 refine q_conv (fun w S => S.perm p5) ?_
 refine q_conv (fun w S => S.perm p3) ?_
 refine q_conv (fun w S => S.perm p3) ?_
 refine q_conv (fun w S => S.perm p4) ?_
 refine q_conv (fun w S => S.perm p5) ?_
 refine h_next ?_
 refine h_one 10 rfl (by kernel_rfl) ?_
 refine l_f5 ?_
 refine o_store1 rfl rfl rfl ti3 rfl rfl ?_
 refine l_nil ?_
 refine q_conv (fun w S => S.perm p5) ?_
 refine q_conv (fun w S => S.perm p5) ?_
 refine q_conv (fun w S => S.perm p5) ?_
 refine q_conv (fun w S => S.perm p3) ?_
 refine q_conv (fun w S => S.perm p5) ?_
 refine q_conv (fun w S => S.perm p5) ?_
 refine h_next ?_
 refine h_take 11 rfl rfl (by kernel_rfl) (by kernel_rfl) (by kernel_rfl) (fun L0 => v_fieldAddr (q := ⟨b2, 4, none⟩) rfl rfl Tryz.underlying33 rfl ti30 rfl) ?_
 refine h_take 12 rfl rfl (by kernel_rfl) (by kernel_rfl) (by kernel_rfl) (fun L0 => v_fieldAddr (q := ⟨b2, 8, none⟩) rfl rfl Tryz.underlying30 rfl ti3 rfl) ?_
 refine h_one 13 rfl (by kernel_rfl) ?_
 refine l_f2 ?_
 refine o_store1 rfl rfl rfl ti3 rfl rfl ?_
 refine l_nil ?_
 refine q_conv (fun w S => S.perm p5) ?_
 refine q_conv (fun w S => S.perm p5) ?_
 refine q_conv (fun w S => S.perm p5) ?_
 refine q_conv (fun w S => S.perm p3) ?_
 refine q_conv (fun w S => S.perm p5) ?_
 refine q_conv (fun w S => S.perm p5) ?_
 refine h_next ?_
 refine h_take 14 rfl rfl (by kernel_rfl) (by kernel_rfl) (by kernel_rfl) (fun L0 => v_fieldAddr (q := ⟨b2, 4, none⟩) rfl rfl Tryz.underlying33 rfl ti30 rfl) ?_
 refine h_take 15 rfl rfl (by kernel_rfl) (by kernel_rfl) (by kernel_rfl) (fun L0 => v_fieldAddr (q := ⟨b2, 5, none⟩) rfl rfl Tryz.underlying30 rfl ti27 rfl) ?_
 refine h_one 16 rfl (by kernel_rfl) ?_
 refine l_f2 ?_
 refine o_store1 rfl rfl rfl ti27 rfl rfl ?_
 refine l_nil ?_
 refine q_conv (fun w S => S.perm p5) ?_
 refine q_conv (fun w S => S.perm p5) ?_
 refine q_conv (fun w S => S.perm p5) ?_
 refine q_conv (fun w S => S.perm p3) ?_
 refine q_conv (fun w S => S.perm p5) ?_
 refine q_conv (fun w S => S.perm p5) ?_
 refine h_next ?_
 refine h_take 17 rfl rfl (by kernel_rfl) (by kernel_rfl) (by kernel_rfl) (fun L0 => v_fieldAddr (q := ⟨b2, 4, none⟩) rfl rfl Tryz.underlying33 rfl ti30 rfl) ?_
 refine h_take 18 rfl rfl (by kernel_rfl) (by kernel_rfl) (by kernel_rfl) (fun L0 => v_fieldAddr (q := ⟨b2, 6, none⟩) rfl rfl Tryz.underlying30 rfl ti27 rfl) ?_
 refine h_one 19 rfl (by kernel_rfl) ?_
 refine l_f2 ?_
 refine o_store1 rfl rfl rfl ti27 rfl rfl ?_
 refine l_nil ?_
 refine q_conv (fun w S => S.perm p5) ?_
 refine q_conv (fun w S => S.perm p5) ?_
 refine q_conv (fun w S => S.perm p5) ?_
 refine q_conv (fun w S => S.perm p3) ?_
 refine q_conv (fun w S => S.perm p5) ?_
 refine q_conv (fun w S => S.perm p5) ?_
 refine h_next ?_
 refine h_done (by kernel_rfl) ?_
 refine q_then ?_
 refine c_seq ?_
 refine c_seq ?_
 refine c_nilrow e_Op ?_
 refine c_conv (L' := stars ((([] : List Op).map Op.f_Value).map (vrow e8)) :: _) (fun w S => S.stars_nil) ?_
 refine c_region ?_
 refine o_loadn (vs := [_]) rfl rfl Tryz.underlying76 rfl ti76 (rdn_lit 2 rfl rfl) ?_
 refine l_f3 ?_
 refine l_f6 ?_
 refine o_call rfl cal36 rfl (rsmall_ ok33) ?_
 rintro _ _ ⟨ys43, ay43, cy43, ok43, rfl, rfl⟩
 have dr43 : ys43 = ys33.drop (numR 0 0 ys33).2.2 := EyeOk.next ok33 ok43
 refine o_min rfl rfl rfl Tryz.underlying3 ?_
 obtain ⟨n, hn⟩ : ∃ n : Nat, (n : Int) = min (smR ys33) 17 := ⟨(min (smR ys33) 17).toNat, by have := smR_0 ys33; omega⟩
 have hhd : ∀ o, GoodO o ys → n = o.f_Txn_Ops.xs.length ∧ ys43 = opT o 0 := fun o g => by obtain ⟨_, e1⟩ := rd_head g dr8 dr10 dr12 dr14 dr27 dr29; obtain ⟨_, e2⟩ := htx31 _ _ (rd_reads g.ok e1); obtain ⟨_, e3⟩ := htx33 _ _ (rd_writes g.ok e2); exact rd_nops g.ok e3 hn dr43
 refine l_eq (t := 44) (v' := .int .i64 (n : Int)) rfl (by exact congrArg (Value.int .i64) hn.symm) ?_
 refine o_move rfl rfl ?_
 refine l_nil ?_
 refine q_then ?_
 refine c_block ?_
 refine c_loop (α := Nat × (List Op) × (Option Addr) × Nat × (List UInt8) × (Option Addr) × Nat × Nat) (fun z => [(1, .pointer (some ⟨b1, 0, none⟩)), (2, .pointer (some ⟨b2, 0, none⟩)), (44, .int .i64 (n : Int)), (45, .int .i64 (z.1 : Int))]) (fun z => blk k (.cells #[.slice z.2.2.2.2.2.1 (z.2.2.2.2.1).length z.2.2.2.2.2.2.1] 104 (0, 0)) :: row e8.T e8.sz a (bs).length c (flat e8 bs) :: stars ((z.2.1.map Op.f_Value).map (vrow e8)) :: row e_Op.T e_Op.sz z.2.2.1 (z.2.1).length z.2.2.2.1 (flat e_Op z.2.1) :: blk b1 (.cells #[.pointer (some ⟨k, 0, none⟩)] 76 (0, 0)) :: blk b2 (.cells #[.int .i64 (smR ys), .int .u64 ((numR 0 0 ys8).1 : Int), .int .u64 ((numR 0 0 ys10).1 : Int), .int .i64 (smR ys12), .int .i64 (smR ys14), .slice a31 (out31).length c31, .slice a33 (out33).length c33, .slice z.2.2.1 (z.2.1).length z.2.2.2.1, .int .i64 (smR ys27), .slice none 0 0] 33 (0, 0)) :: row e_S.T e_S.sz a33 (out33).length c33 (flat e_S out33) :: row e_S.T e_S.sz a31 (out31).length c31 (flat e_S out31) :: F) (fun z => z.1 ≤ n ∧ EyeOk W a bs z.2.2.2.2.2.2.2 z.2.2.2.2.1 z.2.2.2.2.2.1 z.2.2.2.2.2.2.1 ∧ OpInv ys n z.1 z.2.1 z.2.2.2.2.1) (fun z => n - z.1) (0, [], none, 0, ys43, ay43, cy43, _) (by exact ⟨Nat.zero_le _, ok43, OpInv.start hhd⟩) ⟨(by first | rfl | exact vint (by omega)), (by first | rfl | exact vint (by omega)), (by first | rfl | exact vint (by omega)), (by first | rfl | exact vint (by omega)), trivial⟩ (fun w S => S) ?_
 rintro ⟨i, os, a7, c7, ye, ae, ce, ei⟩ ⟨hi, oke, hO⟩
 try dsimp only at *
 have hoL := hO.len
 have hn9 : n ≤ 17 := by omega
 refine c_seq ?_
 refine c_region ?_
 refine o_bin rfl rfl rfl b_lss ?_
 refine l_nil ?_
 refine q_then ?_
 refine c_seq ?_
 refine c_cond rfl (fun h1 => ?_) (fun h1 => ?_)
 · -- h1T
  have h1b := h1
  try simp only [decide_eq_true_eq] at h1
  refine c_skip ?_
  refine q_then ?_
  refine c_seq ?_
  refine c_block ?_
  refine c_seq ?_
  refine c_mid (α := Nat × (Option Addr) × Nat × (Option Addr) × Nat × (List UInt8) × (List UInt8) × (List UInt8) × (List UInt8) × (List UInt8) × (Option Addr) × Nat × Nat) (fun z => [(1, .pointer (some ⟨b1, 0, none⟩)), (2, .pointer (some ⟨b2, 0, none⟩)), (3, .pointer (some ⟨z.1, 0, none⟩)), (44, .int .i64 (n : Int)), (45, .int .i64 (i : Int)), (46, .bool (decide ((i : Int) < (n : Int)))), (47, .agg #[.pointer (some ⟨k, 0, none⟩)]), (48, .int .i64 (smR ye)), (49, .agg #[.pointer (some ⟨k, 0, none⟩)]), (50, .slice z.2.2.2.1 (z.2.2.2.2.2.2.2.2.1).length z.2.2.2.2.1), (51, .string (bts z.2.2.2.2.2.2.2.2.1)), (52, .agg #[.pointer (some ⟨k, 0, none⟩)]), (53, .slice z.2.1 (z.2.2.2.2.2.2.2.2.2.1).length z.2.2.1), (54, .agg #[.int .i64 (smR ye), .string (bts z.2.2.2.2.2.2.2.2.1), .slice z.2.1 (z.2.2.2.2.2.2.2.2.2.1).length z.2.2.1, .int .i64 0])]) (fun z => blk z.1 (.cells #[.int .i64 (smR ye), .string (bts z.2.2.2.2.2.2.2.2.1), .slice z.2.1 (z.2.2.2.2.2.2.2.2.2.1).length z.2.2.1, .int .i64 0] 92 (0, 0)) :: row e8.T e8.sz z.2.1 (z.2.2.2.2.2.2.2.2.2.1).length z.2.2.1 (flat e8 z.2.2.2.2.2.2.2.2.2.1) :: blk k (.cells #[.slice z.2.2.2.2.2.2.2.2.2.2.1 (z.2.2.2.2.2.2.2.1).length z.2.2.2.2.2.2.2.2.2.2.2.1] 104 (0, 0)) :: row e8.T e8.sz a (bs).length c (flat e8 bs) :: row e8.T e8.sz z.2.2.2.1 (z.2.2.2.2.2.2.2.2.1).length z.2.2.2.2.1 (flat e8 z.2.2.2.2.2.2.2.2.1) :: stars ((os.map Op.f_Value).map (vrow e8)) :: row e_Op.T e_Op.sz a7 (os).length c7 (flat e_Op os) :: blk b1 (.cells #[.pointer (some ⟨k, 0, none⟩)] 76 (0, 0)) :: blk b2 (.cells #[.int .i64 (smR ys), .int .u64 ((numR 0 0 ys8).1 : Int), .int .u64 ((numR 0 0 ys10).1 : Int), .int .i64 (smR ys12), .int .i64 (smR ys14), .slice a31 (out31).length c31, .slice a33 (out33).length c33, .slice a7 (os).length c7, .int .i64 (smR ys27), .slice none 0 0] 33 (0, 0)) :: row e_S.T e_S.sz a33 (out33).length c33 (flat e_S out33) :: row e_S.T e_S.sz a31 (out31).length c31 (flat e_S out31) :: F) (fun z => EyeOk W a bs z.2.2.2.2.2.2.2.2.2.2.2.2 z.2.2.2.2.2.2.2.1 z.2.2.2.2.2.2.2.2.2.2.1 z.2.2.2.2.2.2.2.2.2.2.2.1 ∧ z.2.2.2.2.2.1 = ye.drop (numR 0 0 ye).2.2 ∧ z.2.2.2.2.2.2.1 = z.2.2.2.2.2.1.drop (textR z.2.2.2.2.2.1).2.2 ∧ z.2.2.2.2.2.2.2.1 = z.2.2.2.2.2.2.1.drop (textR z.2.2.2.2.2.2.1).2.2 ∧ z.2.2.2.2.2.2.2.2.1 = (textR z.2.2.2.2.2.1).1 ∧ z.2.2.2.2.2.2.2.2.2.1 = (textR z.2.2.2.2.2.2.1).1) ?_ ?_
  · -- cut
   refine c_conv (fun w S => S.perm p7) ?_
   refine c_conv (fun w S => S.perm p7) ?_
   refine c_conv (fun w S => S.perm p7) ?_
   refine c_conv (fun w S => S.perm p7) ?_
   refine c_conv (fun w S => S.perm p7) ?_
   refine c_conv (fun w S => S.perm p7) ?_
   refine c_conv (fun w S => S.perm p7) ?_
   refine c_held [row e8.T e8.sz a (bs).length c (flat e8 bs), stars ((os.map Op.f_Value).map (vrow e8)), row e_Op.T e_Op.sz a7 (os).length c7 (flat e_Op os), blk b1 (.cells #[.pointer (some ⟨k, 0, none⟩)] 76 (0, 0)), blk b2 (.cells #[.int .i64 (smR ys), .int .u64 ((numR 0 0 ys8).1 : Int), .int .u64 ((numR 0 0 ys10).1 : Int), .int .i64 (smR ys12), .int .i64 (smR ys14), .slice a31 (out31).length c31, .slice a33 (out33).length c33, .slice a7 (os).length c7, .int .i64 (smR ys27), .slice none 0 0] 33 (0, 0)), row e_S.T e_S.sz a33 (out33).length c33 (flat e_S out33), row e_S.T e_S.sz a31 (out31).length c31 (flat e_S out31)] (by kernel_rfl) rfl ?_
   refine h_take 0 rfl rfl (by kernel_rfl) (by kernel_rfl) (by kernel_rfl) (fun L0 => v_loadn (vs := [_]) rfl rfl Tryz.underlying76 rfl ti76 (rdn_lit 3 rfl rfl)) ?_
   refine h_take 2 rfl rfl (by kernel_rfl) (by kernel_rfl) (by kernel_rfl) (fun L0 => v_loadn (vs := [_]) rfl rfl Tryz.underlying76 rfl ti76 (rdn_lit 3 rfl rfl)) ?_
   refine h_take 5 rfl rfl (by kernel_rfl) (by kernel_rfl) (by kernel_rfl) (fun L0 => v_loadn (vs := [_]) rfl rfl Tryz.underlying76 rfl ti76 (rdn_lit 3 rfl rfl)) ?_
   refine h_many (is := [1, 8]) (by kernel_rfl) (by decide) (forall_cons ⟨_, rfl, ?_⟩ (forall_cons ⟨_, rfl, ?_⟩ forall_nil))
   · -- 1 comes first
    refine l_f7 ?_
    refine o_call rfl cal36 rfl (rsmall_ oke) ?_
    rintro _ _ ⟨ys48, ay48, cy48, ok48, rfl, rfl⟩
    have dr48 : ys48 = ye.drop (numR 0 0 ye).2.2 := EyeOk.next oke ok48
    refine l_nil ?_
    refine q_conv (fun w S => S.perm p7) ?_
    refine q_conv (fun w S => S.perm p7) ?_
    refine q_conv (fun w S => S.perm p7) ?_
    refine q_conv (fun w S => S.perm p7) ?_
    refine q_conv (fun w S => S.perm p7) ?_
    refine q_conv (fun w S => S.perm p7) ?_
    refine q_conv (fun w S => S.perm p7) ?_
    refine h_next ?_
    refine h_many (is := [3, 8]) (by kernel_rfl) (by decide) (forall_cons ⟨_, rfl, ?_⟩ (forall_cons ⟨_, rfl, ?_⟩ forall_nil))
    · -- 3 comes first
     refine l_f7 ?_
     refine o_call rfl cal54 rfl (rtext_ ok48) ?_
     rintro _ _ ⟨out50, ys50, ay50, cy50, a50, c50, hout50, ok50, rfl, rfl⟩
     have dr50 : ys50 = ys48.drop (textR ys48).2.2 := EyeOk.next ok48 ok50
     refine l_nil ?_
     refine q_conv (fun w S => S.perm p1) ?_
     refine q_conv (fun w S => S.perm p1) ?_
     refine q_conv (fun w S => S.perm p8) ?_
     refine q_conv (fun w S => S.perm p8) ?_
     refine q_conv (fun w S => S.perm p8) ?_
     refine q_conv (fun w S => S.perm p8) ?_
     refine q_conv (fun w S => S.perm p8) ?_
     refine q_conv (fun w S => S.perm p8) ?_
     refine q_conv (fun w S => S.perm p8) ?_
     refine h_next ?_
     refine h_more [row e8.T e8.sz a50 (out50).length c50 (flat e8 out50)] rfl ?_
     refine h_take 4 rfl rfl (by kernel_rfl) (by kernel_rfl) (by kernel_rfl) (fun L0 => v_bytesStr (e := e8) rfl rfl rfl Tryz.underlying34 Tryz.underlying5 Tryz.underlying9 (rds_own e8_ok 7 rfl)) ?_
     refine h_many (is := [6, 8]) (by kernel_rfl) (by decide) (forall_cons ⟨_, rfl, ?_⟩ (forall_cons ⟨_, rfl, ?_⟩ forall_nil))
     · -- 6 comes first
      refine l_f8 ?_
      refine o_call rfl cal54 rfl (rtext_ ok50) ?_
      rintro _ _ ⟨out53, ys53, ay53, cy53, a53, c53, hout53, ok53, rfl, rfl⟩
      have dr53 : ys53 = ys50.drop (textR ys50).2.2 := EyeOk.next ok50 ok53
      refine l_nil ?_
      refine q_conv (fun w S => S.perm p1) ?_
      refine q_conv (fun w S => S.perm p1) ?_
      refine q_conv (fun w S => S.perm p9) ?_
      refine q_conv (fun w S => S.perm p9) ?_
      refine q_conv (fun w S => S.perm p9) ?_
      refine q_conv (fun w S => S.perm p9) ?_
      refine q_conv (fun w S => S.perm p9) ?_
      refine q_conv (fun w S => S.perm p9) ?_
      refine q_conv (fun w S => S.perm p9) ?_
      refine q_conv (fun w S => S.perm p9) ?_
      refine h_next ?_
      refine h_take 7 rfl rfl (by kernel_rfl) (by kernel_rfl) (by kernel_rfl) (fun L0 => v_build rfl sp92 ti92 rfl ((fill_cons (cells' := [.int .i64 (smR ye), .string ByteArray.empty, .slice none 0 0, .int .i64 0]) rfl rfl rfl rfl (fill_cons (cells' := [.int .i64 (smR ye), .string (bts out50), .slice none 0 0, .int .i64 0]) rfl rfl rfl rfl (fill_cons (cells' := [.int .i64 (smR ye), .string (bts out50), .slice a53 (out53).length c53, .int .i64 0]) rfl rfl rfl rfl fill_nil))))) ?_
      refine h_one 8 rfl (by kernel_rfl) ?_
      refine o_alloc rfl ti92 fun b3 => ?_
      refine l_nil ?_
      refine q_conv (fun w S => S.perm p10) ?_
      refine q_conv (fun w S => S.perm p10) ?_
      refine q_conv (fun w S => S.perm p2) ?_
      refine q_conv (fun w S => S.perm p10) ?_
      refine q_conv (fun w S => S.perm p10) ?_
      refine q_conv (fun w S => S.perm p10) ?_
      refine q_conv (fun w S => S.perm p10) ?_
      refine q_conv (fun w S => S.perm p10) ?_
      refine q_conv (fun w S => S.perm p10) ?_
      refine q_conv (fun w S => S.perm p10) ?_
      refine q_conv (fun w S => S.perm p10) ?_
      refine h_next ?_
      refine h_one 9 rfl (by kernel_rfl) ?_
      refine l_f8 ?_
      refine o_storen rfl rfl ti92 rfl rfl rfl rfl ?_
      refine l_nil ?_
      refine q_conv (fun w S => S.perm p10) ?_
      refine q_conv (fun w S => S.perm p10) ?_
      refine q_conv (fun w S => S.perm p2) ?_
      refine q_conv (fun w S => S.perm p10) ?_
      refine q_conv (fun w S => S.perm p10) ?_
      refine q_conv (fun w S => S.perm p10) ?_
      refine q_conv (fun w S => S.perm p10) ?_
      refine q_conv (fun w S => S.perm p10) ?_
      refine q_conv (fun w S => S.perm p10) ?_
      refine q_conv (fun w S => S.perm p10) ?_
      refine q_conv (fun w S => S.perm p10) ?_
      refine h_next ?_
      refine h_done (by kernel_rfl) ?_
      refine q_conv (fun w S => S.perm p6) ?_
      refine q_conv (fun w S => S.perm p6) ?_
      refine q_conv (fun w S => S.perm p6) ?_
      refine q_conv (fun w S => S.perm p6) ?_
      refine q_conv (fun w S => S.perm p6) ?_
      refine q_conv (fun w S => S.perm p6) ?_
      refine q_conv (fun w S => S.perm p7) ?_
      refine q_conv (fun w S => S.perm p7) ?_
      refine q_conv (fun w S => S.perm p10) ?_
      refine q_conv (fun w S => S.perm p10) ?_
      refine q_conv (fun w S => S.perm p10) ?_
      exact q_mid (b3, a53, c53, a50, c50, ys48, ys50, ys53, out50, out53, ay53, cy53, _) (by exact ⟨ok53, dr48, dr50, dr53, hout50, hout53⟩) ⟨(by first | rfl | exact vint (by omega)), (by first | rfl | exact vint (by omega)), (by first | rfl | exact vint (by omega)), (by first | rfl | exact vint (by omega)), (by first | rfl | exact vint (by omega)), (by first | rfl | exact vint (by omega)), (by first | rfl | exact vint (by omega)), (by first | rfl | exact vint (by omega)), (by first | rfl | exact vint (by omega)), (by first | rfl | exact vint (by omega)), (by first | rfl | exact vint (by omega)), (by first | rfl | exact vint (by omega)), (by first | rfl | exact vint (by omega)), (by first | rfl | exact vint (by omega)), trivial⟩ (fun w S => S)
     · -- 8 comes first
      refine o_alloc rfl ti92 fun b3 => ?_
      refine l_nil ?_
      refine q_conv (fun w S => S.perm p9) ?_
      refine q_conv (fun w S => S.perm p1) ?_
      refine q_conv (fun w S => S.perm p9) ?_
      refine q_conv (fun w S => S.perm p9) ?_
      refine q_conv (fun w S => S.perm p9) ?_
      refine q_conv (fun w S => S.perm p9) ?_
      refine q_conv (fun w S => S.perm p9) ?_
      refine q_conv (fun w S => S.perm p9) ?_
      refine q_conv (fun w S => S.perm p9) ?_
      refine q_conv (fun w S => S.perm p9) ?_
      refine h_next ?_
      refine h_one 6 rfl (by kernel_rfl) ?_
      refine l_f9 ?_
      refine o_call rfl cal54 rfl (rtext_ ok50) ?_
      rintro _ _ ⟨out53, ys53, ay53, cy53, a53, c53, hout53, ok53, rfl, rfl⟩
      have dr53 : ys53 = ys50.drop (textR ys50).2.2 := EyeOk.next ok50 ok53
      refine l_nil ?_
      refine q_conv (fun w S => S.perm p10) ?_
      refine q_conv (fun w S => S.perm p2) ?_
      refine q_conv (fun w S => S.perm p2) ?_
      refine q_conv (fun w S => S.perm p10) ?_
      refine q_conv (fun w S => S.perm p10) ?_
      refine q_conv (fun w S => S.perm p10) ?_
      refine q_conv (fun w S => S.perm p10) ?_
      refine q_conv (fun w S => S.perm p10) ?_
      refine q_conv (fun w S => S.perm p10) ?_
      refine q_conv (fun w S => S.perm p10) ?_
      refine q_conv (fun w S => S.perm p10) ?_
      refine h_next ?_
      refine h_take 7 rfl rfl (by kernel_rfl) (by kernel_rfl) (by kernel_rfl) (fun L0 => v_build rfl sp92 ti92 rfl ((fill_cons (cells' := [.int .i64 (smR ye), .string ByteArray.empty, .slice none 0 0, .int .i64 0]) rfl rfl rfl rfl (fill_cons (cells' := [.int .i64 (smR ye), .string (bts out50), .slice none 0 0, .int .i64 0]) rfl rfl rfl rfl (fill_cons (cells' := [.int .i64 (smR ye), .string (bts out50), .slice a53 (out53).length c53, .int .i64 0]) rfl rfl rfl rfl fill_nil))))) ?_
      refine h_one 9 rfl (by kernel_rfl) ?_
      refine l_f10 ?_
      refine o_storen rfl rfl ti92 rfl rfl rfl rfl ?_
      refine l_nil ?_
      refine q_conv (fun w S => S.perm p10) ?_
      refine q_conv (fun w S => S.perm p10) ?_
      refine q_conv (fun w S => S.perm p2) ?_
      refine q_conv (fun w S => S.perm p10) ?_
      refine q_conv (fun w S => S.perm p10) ?_
      refine q_conv (fun w S => S.perm p10) ?_
      refine q_conv (fun w S => S.perm p10) ?_
      refine q_conv (fun w S => S.perm p10) ?_
      refine q_conv (fun w S => S.perm p10) ?_
      refine q_conv (fun w S => S.perm p10) ?_
      refine q_conv (fun w S => S.perm p10) ?_
      refine h_next ?_
      refine h_done (by kernel_rfl) ?_
      refine q_conv (fun w S => S.perm p6) ?_
      refine q_conv (fun w S => S.perm p6) ?_
      refine q_conv (fun w S => S.perm p6) ?_
      refine q_conv (fun w S => S.perm p6) ?_
      refine q_conv (fun w S => S.perm p6) ?_
      refine q_conv (fun w S => S.perm p6) ?_
      refine q_conv (fun w S => S.perm p7) ?_
      refine q_conv (fun w S => S.perm p7) ?_
      refine q_conv (fun w S => S.perm p10) ?_
      refine q_conv (fun w S => S.perm p10) ?_
      refine q_conv (fun w S => S.perm p10) ?_
      exact q_mid (b3, a53, c53, a50, c50, ys48, ys50, ys53, out50, out53, ay53, cy53, _) (by exact ⟨ok53, dr48, dr50, dr53, hout50, hout53⟩) ⟨(by first | rfl | exact vint (by omega)), (by first | rfl | exact vint (by omega)), (by first | rfl | exact vint (by omega)), (by first | rfl | exact vint (by omega)), (by first | rfl | exact vint (by omega)), (by first | rfl | exact vint (by omega)), (by first | rfl | exact vint (by omega)), (by first | rfl | exact vint (by omega)), (by first | rfl | exact vint (by omega)), (by first | rfl | exact vint (by omega)), (by first | rfl | exact vint (by omega)), (by first | rfl | exact vint (by omega)), (by first | rfl | exact vint (by omega)), (by first | rfl | exact vint (by omega)), trivial⟩ (fun w S => S)
    · -- 8 comes first
     refine o_alloc rfl ti92 fun b3 => ?_
     refine l_nil ?_
     refine q_conv (fun w S => S.perm p8) ?_
     refine q_conv (fun w S => S.perm p1) ?_
     refine q_conv (fun w S => S.perm p8) ?_
     refine q_conv (fun w S => S.perm p8) ?_
     refine q_conv (fun w S => S.perm p8) ?_
     refine q_conv (fun w S => S.perm p8) ?_
     refine q_conv (fun w S => S.perm p8) ?_
     refine q_conv (fun w S => S.perm p8) ?_
     refine q_conv (fun w S => S.perm p8) ?_
     refine h_next ?_
     refine h_one 3 rfl (by kernel_rfl) ?_
     refine l_f8 ?_
     refine o_call rfl cal54 rfl (rtext_ ok48) ?_
     rintro _ _ ⟨out50, ys50, ay50, cy50, a50, c50, hout50, ok50, rfl, rfl⟩
     have dr50 : ys50 = ys48.drop (textR ys48).2.2 := EyeOk.next ok48 ok50
     refine l_nil ?_
     refine q_conv (fun w S => S.perm p9) ?_
     refine q_conv (fun w S => S.perm p2) ?_
     refine q_conv (fun w S => S.perm p2) ?_
     refine q_conv (fun w S => S.perm p9) ?_
     refine q_conv (fun w S => S.perm p9) ?_
     refine q_conv (fun w S => S.perm p9) ?_
     refine q_conv (fun w S => S.perm p9) ?_
     refine q_conv (fun w S => S.perm p9) ?_
     refine q_conv (fun w S => S.perm p9) ?_
     refine q_conv (fun w S => S.perm p9) ?_
     refine h_next ?_
     refine h_more [row e8.T e8.sz a50 (out50).length c50 (flat e8 out50)] rfl ?_
     refine h_take 4 rfl rfl (by kernel_rfl) (by kernel_rfl) (by kernel_rfl) (fun L0 => v_bytesStr (e := e8) rfl rfl rfl Tryz.underlying34 Tryz.underlying5 Tryz.underlying9 (rds_own e8_ok 7 rfl)) ?_
     refine h_one 6 rfl (by kernel_rfl) ?_
     refine l_f8 ?_
     refine o_call rfl cal54 rfl (rtext_ ok50) ?_
     rintro _ _ ⟨out53, ys53, ay53, cy53, a53, c53, hout53, ok53, rfl, rfl⟩
     have dr53 : ys53 = ys50.drop (textR ys50).2.2 := EyeOk.next ok50 ok53
     refine l_nil ?_
     refine q_conv (fun w S => S.perm p10) ?_
     refine q_conv (fun w S => S.perm p2) ?_
     refine q_conv (fun w S => S.perm p2) ?_
     refine q_conv (fun w S => S.perm p10) ?_
     refine q_conv (fun w S => S.perm p10) ?_
     refine q_conv (fun w S => S.perm p10) ?_
     refine q_conv (fun w S => S.perm p10) ?_
     refine q_conv (fun w S => S.perm p10) ?_
     refine q_conv (fun w S => S.perm p10) ?_
     refine q_conv (fun w S => S.perm p10) ?_
     refine q_conv (fun w S => S.perm p10) ?_
     refine h_next ?_
     refine h_take 7 rfl rfl (by kernel_rfl) (by kernel_rfl) (by kernel_rfl) (fun L0 => v_build rfl sp92 ti92 rfl ((fill_cons (cells' := [.int .i64 (smR ye), .string ByteArray.empty, .slice none 0 0, .int .i64 0]) rfl rfl rfl rfl (fill_cons (cells' := [.int .i64 (smR ye), .string (bts out50), .slice none 0 0, .int .i64 0]) rfl rfl rfl rfl (fill_cons (cells' := [.int .i64 (smR ye), .string (bts out50), .slice a53 (out53).length c53, .int .i64 0]) rfl rfl rfl rfl fill_nil))))) ?_
     refine h_one 9 rfl (by kernel_rfl) ?_
     refine l_f10 ?_
     refine o_storen rfl rfl ti92 rfl rfl rfl rfl ?_
     refine l_nil ?_
     refine q_conv (fun w S => S.perm p10) ?_
     refine q_conv (fun w S => S.perm p10) ?_
     refine q_conv (fun w S => S.perm p2) ?_
     refine q_conv (fun w S => S.perm p10) ?_
     refine q_conv (fun w S => S.perm p10) ?_
     refine q_conv (fun w S => S.perm p10) ?_
     refine q_conv (fun w S => S.perm p10) ?_
     refine q_conv (fun w S => S.perm p10) ?_
     refine q_conv (fun w S => S.perm p10) ?_
     refine q_conv (fun w S => S.perm p10) ?_
     refine q_conv (fun w S => S.perm p10) ?_
     refine h_next ?_
     refine h_done (by kernel_rfl) ?_
     refine q_conv (fun w S => S.perm p6) ?_
     refine q_conv (fun w S => S.perm p6) ?_
     refine q_conv (fun w S => S.perm p6) ?_
     refine q_conv (fun w S => S.perm p6) ?_
     refine q_conv (fun w S => S.perm p6) ?_
     refine q_conv (fun w S => S.perm p6) ?_
     refine q_conv (fun w S => S.perm p7) ?_
     refine q_conv (fun w S => S.perm p7) ?_
     refine q_conv (fun w S => S.perm p10) ?_
     refine q_conv (fun w S => S.perm p10) ?_
     refine q_conv (fun w S => S.perm p10) ?_
     exact q_mid (b3, a53, c53, a50, c50, ys48, ys50, ys53, out50, out53, ay53, cy53, _) (by exact ⟨ok53, dr48, dr50, dr53, hout50, hout53⟩) ⟨(by first | rfl | exact vint (by omega)), (by first | rfl | exact vint (by omega)), (by first | rfl | exact vint (by omega)), (by first | rfl | exact vint (by omega)), (by first | rfl | exact vint (by omega)), (by first | rfl | exact vint (by omega)), (by first | rfl | exact vint (by omega)), (by first | rfl | exact vint (by omega)), (by first | rfl | exact vint (by omega)), (by first | rfl | exact vint (by omega)), (by first | rfl | exact vint (by omega)), (by first | rfl | exact vint (by omega)), (by first | rfl | exact vint (by omega)), (by first | rfl | exact vint (by omega)), trivial⟩ (fun w S => S)
   · -- 8 comes first
    refine o_alloc rfl ti92 fun b3 => ?_
    refine l_nil ?_
    refine q_conv (fun w S => S.perm p8) ?_
    refine q_conv (fun w S => S.perm p1) ?_
    refine q_conv (fun w S => S.perm p8) ?_
    refine q_conv (fun w S => S.perm p8) ?_
    refine q_conv (fun w S => S.perm p8) ?_
    refine q_conv (fun w S => S.perm p8) ?_
    refine q_conv (fun w S => S.perm p8) ?_
    refine q_conv (fun w S => S.perm p8) ?_
    refine q_conv (fun w S => S.perm p8) ?_
    refine h_next ?_
    refine h_one 1 rfl (by kernel_rfl) ?_
    refine l_f8 ?_
    refine o_call rfl cal36 rfl (rsmall_ oke) ?_
    rintro _ _ ⟨ys48, ay48, cy48, ok48, rfl, rfl⟩
    have dr48 : ys48 = ye.drop (numR 0 0 ye).2.2 := EyeOk.next oke ok48
    refine l_nil ?_
    refine q_conv (fun w S => S.perm p8) ?_
    refine q_conv (fun w S => S.perm p1) ?_
    refine q_conv (fun w S => S.perm p8) ?_
    refine q_conv (fun w S => S.perm p8) ?_
    refine q_conv (fun w S => S.perm p8) ?_
    refine q_conv (fun w S => S.perm p8) ?_
    refine q_conv (fun w S => S.perm p8) ?_
    refine q_conv (fun w S => S.perm p8) ?_
    refine q_conv (fun w S => S.perm p8) ?_
    refine h_next ?_
    refine h_one 3 rfl (by kernel_rfl) ?_
    refine l_f7 ?_
    refine o_call rfl cal54 rfl (rtext_ ok48) ?_
    rintro _ _ ⟨out50, ys50, ay50, cy50, a50, c50, hout50, ok50, rfl, rfl⟩
    have dr50 : ys50 = ys48.drop (textR ys48).2.2 := EyeOk.next ok48 ok50
    refine l_nil ?_
    refine q_conv (fun w S => S.perm p9) ?_
    refine q_conv (fun w S => S.perm p2) ?_
    refine q_conv (fun w S => S.perm p2) ?_
    refine q_conv (fun w S => S.perm p9) ?_
    refine q_conv (fun w S => S.perm p9) ?_
    refine q_conv (fun w S => S.perm p9) ?_
    refine q_conv (fun w S => S.perm p9) ?_
    refine q_conv (fun w S => S.perm p9) ?_
    refine q_conv (fun w S => S.perm p9) ?_
    refine q_conv (fun w S => S.perm p9) ?_
    refine h_next ?_
    refine h_more [row e8.T e8.sz a50 (out50).length c50 (flat e8 out50)] rfl ?_
    refine h_take 4 rfl rfl (by kernel_rfl) (by kernel_rfl) (by kernel_rfl) (fun L0 => v_bytesStr (e := e8) rfl rfl rfl Tryz.underlying34 Tryz.underlying5 Tryz.underlying9 (rds_own e8_ok 7 rfl)) ?_
    refine h_one 6 rfl (by kernel_rfl) ?_
    refine l_f8 ?_
    refine o_call rfl cal54 rfl (rtext_ ok50) ?_
    rintro _ _ ⟨out53, ys53, ay53, cy53, a53, c53, hout53, ok53, rfl, rfl⟩
    have dr53 : ys53 = ys50.drop (textR ys50).2.2 := EyeOk.next ok50 ok53
    refine l_nil ?_
    refine q_conv (fun w S => S.perm p10) ?_
    refine q_conv (fun w S => S.perm p2) ?_
    refine q_conv (fun w S => S.perm p2) ?_
    refine q_conv (fun w S => S.perm p10) ?_
    refine q_conv (fun w S => S.perm p10) ?_
    refine q_conv (fun w S => S.perm p10) ?_
    refine q_conv (fun w S => S.perm p10) ?_
    refine q_conv (fun w S => S.perm p10) ?_
    refine q_conv (fun w S => S.perm p10) ?_
    refine q_conv (fun w S => S.perm p10) ?_
    refine q_conv (fun w S => S.perm p10) ?_
    refine h_next ?_
    refine h_take 7 rfl rfl (by kernel_rfl) (by kernel_rfl) (by kernel_rfl) (fun L0 => v_build rfl sp92 ti92 rfl ((fill_cons (cells' := [.int .i64 (smR ye), .string ByteArray.empty, .slice none 0 0, .int .i64 0]) rfl rfl rfl rfl (fill_cons (cells' := [.int .i64 (smR ye), .string (bts out50), .slice none 0 0, .int .i64 0]) rfl rfl rfl rfl (fill_cons (cells' := [.int .i64 (smR ye), .string (bts out50), .slice a53 (out53).length c53, .int .i64 0]) rfl rfl rfl rfl fill_nil))))) ?_
    refine h_one 9 rfl (by kernel_rfl) ?_
    refine l_f10 ?_
    refine o_storen rfl rfl ti92 rfl rfl rfl rfl ?_
    refine l_nil ?_
    refine q_conv (fun w S => S.perm p10) ?_
    refine q_conv (fun w S => S.perm p10) ?_
    refine q_conv (fun w S => S.perm p2) ?_
    refine q_conv (fun w S => S.perm p10) ?_
    refine q_conv (fun w S => S.perm p10) ?_
    refine q_conv (fun w S => S.perm p10) ?_
    refine q_conv (fun w S => S.perm p10) ?_
    refine q_conv (fun w S => S.perm p10) ?_
    refine q_conv (fun w S => S.perm p10) ?_
    refine q_conv (fun w S => S.perm p10) ?_
    refine q_conv (fun w S => S.perm p10) ?_
    refine h_next ?_
    refine h_done (by kernel_rfl) ?_
    refine q_conv (fun w S => S.perm p6) ?_
    refine q_conv (fun w S => S.perm p6) ?_
    refine q_conv (fun w S => S.perm p6) ?_
    refine q_conv (fun w S => S.perm p6) ?_
    refine q_conv (fun w S => S.perm p6) ?_
    refine q_conv (fun w S => S.perm p6) ?_
    refine q_conv (fun w S => S.perm p7) ?_
    refine q_conv (fun w S => S.perm p7) ?_
    refine q_conv (fun w S => S.perm p10) ?_
    refine q_conv (fun w S => S.perm p10) ?_
    refine q_conv (fun w S => S.perm p10) ?_
    exact q_mid (b3, a53, c53, a50, c50, ys48, ys50, ys53, out50, out53, ay53, cy53, _) (by exact ⟨ok53, dr48, dr50, dr53, hout50, hout53⟩) ⟨(by first | rfl | exact vint (by omega)), (by first | rfl | exact vint (by omega)), (by first | rfl | exact vint (by omega)), (by first | rfl | exact vint (by omega)), (by first | rfl | exact vint (by omega)), (by first | rfl | exact vint (by omega)), (by first | rfl | exact vint (by omega)), (by first | rfl | exact vint (by omega)), (by first | rfl | exact vint (by omega)), (by first | rfl | exact vint (by omega)), (by first | rfl | exact vint (by omega)), (by first | rfl | exact vint (by omega)), (by first | rfl | exact vint (by omega)), (by first | rfl | exact vint (by omega)), trivial⟩ (fun w S => S)
  · -- behind the cut
   rintro ⟨b3, a53, c53, a50, c50, ys48, ys50, ys53, out50, out53, ay53, cy53, i53⟩ ⟨ok53, dr48, dr50, dr53, hout50, hout53⟩
   try dsimp only at *
   refine c_seq ?_
   refine c_region ?_
   refine o_loadn (vs := [_]) rfl rfl Tryz.underlying76 rfl ti76 (rdn_lit 7 rfl rfl) ?_
   refine l_f3 ?_
   refine l_f3 ?_
   refine o_call rfl cal52 rfl (rnum_ ok53) ?_
   rintro _ _ ⟨ys56, ay56, cy56, ok56, rfl, rfl⟩
   have dr56 : ys56 = ys53.drop (numR 0 0 ys53).2.2 := EyeOk.next ok53 ok56
   refine o_call rfl cal55 rfl (back_ (n := ((numR 0 0 ys53).1)) (num_0 _)) ?_
   rintro _ _ ⟨rfl, rfl⟩
   refine o_fieldAddr (q := ⟨b3, 3, none⟩) rfl rfl Tryz.underlying92 rfl ti2 rfl ?_
   refine l_f2 ?_
   refine o_store1 rfl rfl rfl ti2 rfl rfl ?_
   refine l_nil ?_
   refine q_then ?_
   refine c_region ?_
   refine o_fieldAddr (q := ⟨b2, 4, none⟩) rfl rfl Tryz.underlying33 rfl ti30 rfl ?_
   refine o_fieldAddr (q := ⟨b2, 7, none⟩) rfl rfl Tryz.underlying30 rfl ti28 rfl ?_
   refine o_load1 rfl rfl Tryz.underlying28 rfl (rd_mem 8 rfl rfl) ?_
   refine o_loadn (vs := [_, _, _, _]) rfl rfl Tryz.underlying92 rfl ti92 (rdn_lit 0 rfl rfl) ?_
   refine o_lit e_Op_ok rfl Tryz.underlying28 rfl rfl rfl (lit_ok rfl) [(⟨smR ye, bts out50, ⟨a53, out53, c53⟩, unzig ((numR 0 0 ys53).1 : Int)⟩ : Op)] rfl rfl fun a63 => ?_
   refine l_f7 ?_
   refine o_append e_Op_ok rfl rfl rfl Tryz.underlying28 (rds_own e_Op_ok 1 rfl) (by show (_ + _) * _ ≤ _; simp only [List.length_cons, List.length_nil]; omega) (by simp only [List.length_cons, List.length_nil]; omega) fun a64 c64 => ?_
   refine l_f1 ?_
   refine l_drop ?_
   refine o_fieldAddr (q := ⟨b2, 4, none⟩) rfl rfl Tryz.underlying33 rfl ti30 rfl ?_
   refine o_fieldAddr (q := ⟨b2, 7, none⟩) rfl rfl Tryz.underlying30 rfl ti28 rfl ?_
   refine l_f8 ?_
   refine o_store1 rfl rfl rfl ti28 rfl rfl ?_
   refine l_nil ?_
   refine q_block ?_
   refine q_then ?_
   refine c_region ?_
   refine o_bin rfl rfl rfl (b_add (wrap_i64 (by omega) (by omega))) ?_
   refine o_move rfl rfl ?_
   refine l_nil ?_
   refine q_conv (fun w S => S.perm p10) ?_
   refine q_conv (fun w S => S.perm p10) ?_
   refine q_conv (fun w S => S.perm p10) ?_
   refine q_conv (fun w S => S.perm p9) ?_
   refine q_conv (fun w S => S.perm p8) ?_
   refine q_conv (fun w S => S.perm p8) ?_
   refine q_conv (fun w S => S.perm p8) ?_
   refine q_conv (fun w S => S.perm p8) ?_
   refine q_conv (fun w S => S.perm p8) ?_
   refine q_conv (fun w S => S.perm p10) ?_
   refine q_conv (fun w S => S.perm p10) ?_
   refine q_conv (L' := stars (((os ++ [(⟨smR ye, bts out50, ⟨a53, out53, c53⟩, unzig ((numR 0 0 ys53).1 : Int)⟩ : Op)]).map Op.f_Value).map (vrow e8)) :: _) (fun w S => vals_snoc (y := (⟨smR ye, bts out50, ⟨a53, out53, c53⟩, unzig ((numR 0 0 ys53).1 : Int)⟩ : Op)) S) ?_
   refine q_conv (fun w S => (S.perm p3).tail) ?_
   refine q_conv (fun w S => (S.perm p5).tail) ?_
   refine q_conv (fun w S => S.perm p7) ?_
   refine q_conv (fun w S => S.perm p7) ?_
   refine q_conv (fun w S => S.perm p3) ?_
   refine q_conv (fun w S => S.perm p7) ?_
   refine q_conv (fun w S => S.perm p5) ?_
   refine q_conv (fun w S => S.perm p5) ?_
   refine q_conv (fun w S => S.perm p7) ?_
   refine q_conv (fun w S => S.perm p7) ?_
   exact q_round (i + 1, os ++ [(⟨smR ye, bts out50, ⟨a53, out53, c53⟩, unzig ((numR 0 0 ys53).1 : Int)⟩ : Op)], a64, c64, ys56, ay56, cy56, _) (by exact ⟨by omega, ok56, by have h9 := hO.on (a := a53) (c := c53) (by omega) dr48 dr50 dr53 dr56 (by have h7 := textR_len ys50; have h8 : ys50.length ≤ ye.length := (by rw [dr50, dr48, List.length_drop, List.length_drop]; omega); have h6 : ye.length ≤ bs.length := (by rw [oke.is, List.length_drop]; omega); have := oke.small; omega); rw [← hout50, ← hout53] at h9; exact h9⟩) (by (try dsimp only); omega) ⟨(by first | rfl | exact vint (by omega)), (by first | rfl | exact vint (by omega)), (by first | rfl | exact vint (by omega)), (by first | rfl | exact vint (by omega)), trivial⟩ (fun w S => S)
 · -- h1F
  have h1b := h1
  try simp only [decide_eq_false_iff_not, Int.not_lt, Int.not_le] at h1
  refine c_exit ?_
  refine q_pass_exit ?_
  refine q_pass_exit ?_
  refine q_hit ?_
  refine q_then ?_
  refine c_seq ?_
  refine c_seq ?_
  have hol := hO.len
  have hn17 : n ≤ 17 := by omega
  have hks : ∀ o, GoodO o ys → SameT (⟨smR ys14, ⟨a31, out31, c31⟩, ⟨a33, out33, c33⟩, ⟨a7, os, c7⟩, smR ys27⟩ : Txn) o.txn := fun o g => by obtain ⟨⟨_, _, _, _, e5, e6⟩, e1⟩ := rd_head g dr8 dr10 dr12 dr14 dr27 dr29; obtain ⟨r1, e2⟩ := htx31 _ _ (rd_reads g.ok e1); obtain ⟨r2, e3⟩ := htx33 _ _ (rd_writes g.ok e2); obtain ⟨o1, o2, _⟩ := hO.is o g; exact ⟨e5, e6, r1, r2, (show os.length = o.f_Txn_Ops.xs.length by omega), fun j x y _ hx hy => o2 j x y hx hy⟩
  have hkl := keysT_len (⟨smR ys14, ⟨a31, out31, c31⟩, ⟨a33, out33, c33⟩, ⟨a7, os, c7⟩, smR ys27⟩ : Txn)
  refine c_nilrow e_Mark ?_
  have hkl2 : (keysT (⟨smR ys14, ⟨a31, out31, c31⟩, ⟨a33, out33, c33⟩, ⟨a7, os, c7⟩, smR ys27⟩ : Txn)).length ≤ 18 := by have e : (keysT (⟨smR ys14, ⟨a31, out31, c31⟩, ⟨a33, out33, c33⟩, ⟨a7, os, c7⟩, smR ys27⟩ : Txn)).length ≤ out31.length + out33.length := hkl; omega
  refine c_region ?_
  refine o_fieldAddr (q := ⟨b2, 4, none⟩) rfl rfl Tryz.underlying33 rfl ti30 rfl ?_
  refine o_loadn (vs := [_, _, _, _, _]) rfl rfl Tryz.underlying30 rfl ti30 (rdn_lit 6 rfl rfl) ?_
  refine o_call rfl cal40 rfl (keys_ (t := (⟨smR ys14, ⟨a31, out31, c31⟩, ⟨a33, out33, c33⟩, ⟨a7, os, c7⟩, smR ys27⟩ : Txn)) (TxR.mk (t := (⟨smR ys14, ⟨a31, out31, c31⟩, ⟨a33, out33, c33⟩, ⟨a7, os, c7⟩, smR ys27⟩ : Txn)) (rds_own e_S_ok 8 rfl) (rds_own e_S_ok 7 rfl) (rds_own e_Op_ok 4 rfl) (vals_rv (os := os) 3 rfl) ⟨(by (try dsimp only); omega), (by (try dsimp only); omega), (by (try dsimp only); omega), fun x hx => by have := (hO.wf x hx).2; omega⟩) (by (try dsimp only); omega)) ?_
  rintro _ _ ⟨a70, c70, rfl, rfl⟩
  refine o_len rfl rfl Tryz.underlying27 ?_
  refine o_move rfl rfl ?_
  refine l_nil ?_
  refine q_then ?_
  refine c_block ?_
  refine c_loop (α := Nat × (List Mark) × (Option Addr) × Nat × (List UInt8) × (Option Addr) × Nat × Nat) (fun z => [(1, .pointer (some ⟨b1, 0, none⟩)), (2, .pointer (some ⟨b2, 0, none⟩)), (70, .slice a70 (keysT (⟨smR ys14, ⟨a31, out31, c31⟩, ⟨a33, out33, c33⟩, ⟨a7, os, c7⟩, smR ys27⟩ : Txn)).length c70), (71, .int .i64 ((keysT (⟨smR ys14, ⟨a31, out31, c31⟩, ⟨a33, out33, c33⟩, ⟨a7, os, c7⟩, smR ys27⟩ : Txn)).length : Int)), (72, .int .i64 (z.1 : Int))]) (fun z => row e_S.T e_S.sz a70 (keysT (⟨smR ys14, ⟨a31, out31, c31⟩, ⟨a33, out33, c33⟩, ⟨a7, os, c7⟩, smR ys27⟩ : Txn)).length c70 (flat e_S (keysT (⟨smR ys14, ⟨a31, out31, c31⟩, ⟨a33, out33, c33⟩, ⟨a7, os, c7⟩, smR ys27⟩ : Txn))) :: row e_Mark.T e_Mark.sz z.2.2.1 (z.2.1).length z.2.2.2.1 (flat e_Mark z.2.1) :: blk k (.cells #[.slice z.2.2.2.2.2.1 (z.2.2.2.2.1).length z.2.2.2.2.2.2.1] 104 (0, 0)) :: row e8.T e8.sz a (bs).length c (flat e8 bs) :: stars ((os.map Op.f_Value).map (vrow e8)) :: row e_Op.T e_Op.sz a7 (os).length c7 (flat e_Op os) :: blk b1 (.cells #[.pointer (some ⟨k, 0, none⟩)] 76 (0, 0)) :: blk b2 (.cells #[.int .i64 (smR ys), .int .u64 ((numR 0 0 ys8).1 : Int), .int .u64 ((numR 0 0 ys10).1 : Int), .int .i64 (smR ys12), .int .i64 (smR ys14), .slice a31 (out31).length c31, .slice a33 (out33).length c33, .slice a7 (os).length c7, .int .i64 (smR ys27), .slice z.2.2.1 (z.2.1).length z.2.2.2.1] 33 (0, 0)) :: row e_S.T e_S.sz a33 (out33).length c33 (flat e_S out33) :: row e_S.T e_S.sz a31 (out31).length c31 (flat e_S out31) :: F) (fun z => z.1 ≤ (keysT (⟨smR ys14, ⟨a31, out31, c31⟩, ⟨a33, out33, c33⟩, ⟨a7, os, c7⟩, smR ys27⟩ : Txn)).length ∧ EyeOk W a bs z.2.2.2.2.2.2.2 z.2.2.2.2.1 z.2.2.2.2.2.1 z.2.2.2.2.2.2.1 ∧ MkInv ys (keysT (⟨smR ys14, ⟨a31, out31, c31⟩, ⟨a33, out33, c33⟩, ⟨a7, os, c7⟩, smR ys27⟩ : Txn)) z.1 z.2.1 z.2.2.2.2.1) (fun z => (keysT (⟨smR ys14, ⟨a31, out31, c31⟩, ⟨a33, out33, c33⟩, ⟨a7, os, c7⟩, smR ys27⟩ : Txn)).length - z.1) (0, [], none, 0, ye, ae, ce, _) (by exact ⟨Nat.zero_le _, oke, MkInv.start fun o g => by obtain ⟨o1, _, o3⟩ := hO.is o g; exact o3.trans (congrArg (opT o) (by omega))⟩) ⟨(by first | rfl | exact vint (by omega)), (by first | rfl | exact vint (by omega)), (by first | rfl | exact vint (by omega)), (by first | rfl | exact vint (by omega)), (by first | rfl | exact vint (by omega)), trivial⟩ (fun w S => S) ?_
  rintro ⟨j, ms, a8, c8, ye, ae, ce, ei⟩ ⟨hj, oke, hM⟩
  try dsimp only at *
  have hmL := hM.len
  refine c_seq ?_
  refine c_region ?_
  refine o_bin rfl rfl rfl b_lss ?_
  refine l_nil ?_
  refine q_then ?_
  refine c_seq ?_
  refine c_cond rfl (fun h2 => ?_) (fun h2 => ?_)
  · -- h2T
   have h2b := h2
   try simp only [decide_eq_true_eq] at h2
   refine c_skip ?_
   refine q_then ?_
   refine c_seq ?_
   refine c_block ?_
   refine c_seq ?_
   refine c_region ?_
   refine o_index e_S_ok rfl rfl rfl Tryz.underlying27 (by omega) (by omega) (rds_own e_S_ok 0 rfl) fun ad74 ead74 => ?_
   obtain ⟨x74, hx74⟩ : ∃ x, (keysT (⟨smR ys14, ⟨a31, out31, c31⟩, ⟨a33, out33, c33⟩, ⟨a7, os, c7⟩, smR ys27⟩ : Txn))[((j : Int)).toNat]? = some x := ⟨_, List.getElem?_eq_getElem (by omega)⟩
   refine o_load1 rfl rfl Tryz.underlying9 rfl (rd_sl0 e_S_ok ead74 (rds_own e_S_ok 0 rfl) hx74 rfl) ?_
   refine o_assign rfl rfl ?_
   refine l_nil ?_
   refine q_then ?_
   refine c_seq ?_
   refine c_region ?_
   refine o_move rfl rfl ?_
   refine o_loadn (vs := [_]) rfl rfl Tryz.underlying76 rfl ti76 (rdn_lit 6 rfl rfl) ?_
   refine l_f3 ?_
   refine l_f3 ?_
   refine o_call rfl cal36 rfl (rsmall_ oke) ?_
   rintro _ _ ⟨ys78, ay78, cy78, ok78, rfl, rfl⟩
   have dr78 : ys78 = ye.drop (numR 0 0 ye).2.2 := EyeOk.next oke ok78
   refine o_build rfl sp60 ti60 rfl ((fill_cons (cells' := [.string x74, .int .i64 0, .int .u64 0]) rfl rfl rfl rfl (fill_cons (cells' := [.string x74, .int .i64 (smR ye), .int .u64 0]) rfl rfl rfl rfl fill_nil))) ?_
   refine o_alloc rfl ti60 fun b6 => ?_
   refine o_storen rfl rfl ti60 rfl rfl rfl rfl ?_
   refine l_nil ?_
   refine q_then ?_
   refine c_seq ?_
   refine c_region ?_
   refine o_loadn (vs := [_]) rfl rfl Tryz.underlying76 rfl ti76 (rdn_lit 7 rfl rfl) ?_
   refine l_f2 ?_
   refine l_f2 ?_
   refine o_call rfl cal52 rfl (rnum_ ok78) ?_
   rintro _ _ ⟨ys81, ay81, cy81, ok81, rfl, rfl⟩
   have dr81 : ys81 = ys78.drop (numR 0 0 ys78).2.2 := EyeOk.next ok78 ok81
   refine o_fieldAddr (q := ⟨b6, 2, none⟩) rfl rfl Tryz.underlying60 rfl ti22 rfl ?_
   refine l_f2 ?_
   refine o_store1 rfl rfl rfl ti22 rfl rfl ?_
   refine l_nil ?_
   refine q_then ?_
   refine c_region ?_
   refine o_fieldAddr (q := ⟨b2, 9, none⟩) rfl rfl Tryz.underlying33 rfl ti31 rfl ?_
   refine o_load1 rfl rfl Tryz.underlying31 rfl (rd_mem 8 rfl rfl) ?_
   refine o_loadn (vs := [_, _, _]) rfl rfl Tryz.underlying60 rfl ti60 (rdn_lit 0 rfl rfl) ?_
   refine o_lit e_Mark_ok rfl Tryz.underlying31 rfl rfl rfl (lit_ok rfl) [(⟨x74, smR ye, ((numR 0 0 ys78).1 : Int)⟩ : Mark)] rfl rfl fun a86 => ?_
   refine l_f5 ?_
   refine o_append e_Mark_ok rfl rfl rfl Tryz.underlying31 (rds_own e_Mark_ok 1 rfl) (by show (_ + _) * _ ≤ _; simp only [List.length_cons, List.length_nil]; omega) (by simp only [List.length_cons, List.length_nil]; omega) fun a87 c87 => ?_
   refine l_f1 ?_
   refine l_drop ?_
   refine o_fieldAddr (q := ⟨b2, 9, none⟩) rfl rfl Tryz.underlying33 rfl ti31 rfl ?_
   refine l_f8 ?_
   refine o_store1 rfl rfl rfl ti31 rfl rfl ?_
   refine l_nil ?_
   refine q_block ?_
   refine q_then ?_
   refine c_region ?_
   refine o_bin rfl rfl rfl (b_add (wrap_i64 (by omega) (by omega))) ?_
   refine o_move rfl rfl ?_
   refine l_nil ?_
   refine q_conv (fun w S => (S.perm p2).tail) ?_
   refine q_conv (fun w S => S.perm p9) ?_
   refine q_conv (fun w S => S.perm p9) ?_
   refine q_conv (fun w S => S.perm p2) ?_
   refine q_conv (fun w S => S.perm p9) ?_
   refine q_conv (fun w S => S.perm p9) ?_
   refine q_conv (fun w S => S.perm p9) ?_
   refine q_conv (fun w S => S.perm p8) ?_
   refine q_conv (fun w S => S.perm p8) ?_
   refine q_conv (fun w S => S.perm p8) ?_
   refine q_conv (fun w S => S.perm p9) ?_
   exact q_round (j + 1, ms ++ [(⟨x74, smR ye, ((numR 0 0 ys78).1 : Int)⟩ : Mark)], a87, c87, ys81, ay81, cy81, _) (by exact ⟨by omega, ok81, hM.on hx74 (fun o g => keysT_same (hks o g)) dr78 dr81⟩) (by (try dsimp only); omega) ⟨(by first | rfl | exact vint (by omega)), (by first | rfl | exact vint (by omega)), (by first | rfl | exact vint (by omega)), (by first | rfl | exact vint (by omega)), (by first | rfl | exact vint (by omega)), trivial⟩ (fun w S => S)
  · -- h2F
   have h2b := h2
   try simp only [decide_eq_false_iff_not, Int.not_lt, Int.not_le] at h2
   refine c_exit ?_
   refine q_pass_exit ?_
   refine q_pass_exit ?_
   refine q_hit ?_
   refine q_then ?_
   refine c_seq ?_
   have hml := hM.len
   have hms : ms.length ≤ 18 := by omega
   have hSame : ∀ o, GoodO o ys → SameO (⟨smR ys, ((numR 0 0 ys8).1 : Int), ((numR 0 0 ys10).1 : Int), smR ys12, smR ys14, ⟨a31, out31, c31⟩, ⟨a33, out33, c33⟩, ⟨a7, os, c7⟩, smR ys27, ⟨a8, ms, c8⟩⟩ : Order) o := fun o g => by obtain ⟨⟨e1, e2, e3, e4, _, _⟩, _⟩ := rd_head g dr8 dr10 dr12 dr14 dr27 dr29; obtain ⟨m1, _⟩ := hM.is o g; have k1 := keysT_same (hks o g); have k2 := g.ok.2.2.1; rw [← k1] at k2; exact ⟨by show (⟨_, _, _, _⟩ : Tag) = ⟨_, _, _, _⟩; rw [e1, e2, e3, e4], hks o g, by show ms = _; rw [m1, List.take_of_length_le (by omega)]⟩
   refine c_region ?_
   refine o_loadn (vs := [_, _, _, _, _, _, _, _, _, _]) rfl rfl Tryz.underlying33 rfl ti33 (rdn_lit 7 rfl rfl) ?_
   refine l_f7 ?_
   refine o_storen rfl rfl ti33 rfl rfl rfl rfl ?_
   refine l_nil ?_
   refine q_then ?_
   refine c_ret ?_
   refine f_retq (.inl rfl) (rs_1 rfl (rs_celln (vs := [.int .i64 (smR ys), .int .u64 ((numR 0 0 ys8).1 : Int), .int .u64 ((numR 0 0 ys10).1 : Int), .int .i64 (smR ys12), .int .i64 (smR ys14), .slice a31 (out31).length c31, .slice a33 (out33).length c33, .slice a7 (os).length c7, .int .i64 (smR ys27), .slice a8 (ms).length c8]) rfl Tryz.underlying33 rfl ti33 (rdn_lit 0 rfl rfl))) (fun w S => ?_)
   replace S := S.tail
   replace S := S.tail
   replace S := (S.perm p5).tail
   replace S := S.perm p2
   replace S := S.perm p2
   replace S := S.perm p2
   replace S := S.perm p3
   replace S := S.perm p4
   replace S := S.perm p5
   replace S := S.perm p6
   exact ⟨_, ⟨(⟨smR ys, ((numR 0 0 ys8).1 : Int), ((numR 0 0 ys10).1 : Int), smR ys12, smR ys14, ⟨a31, out31, c31⟩, ⟨a33, out33, c33⟩, ⟨a7, os, c7⟩, smR ys27, ⟨a8, ms, c8⟩⟩ : Order), ye, ae, ce, ei, ⟨by have := num_0 ys8; exact ⟨by dsimp only; omega, by dsimp only; omega⟩, by have := num_0 ys10; exact ⟨by dsimp only; omega, by dsimp only; omega⟩, hM.wf, fun x hx => (hO.wf x hx).1⟩, ⟨by (try dsimp only); omega, ⟨by (try dsimp only); omega, by (try dsimp only); omega, by (try dsimp only); omega, fun x hx => by have := (hO.wf x hx).2; omega⟩⟩, ⟨hln31, hln33, by (try dsimp only); omega, by (try dsimp only); omega⟩, hSame, oke, rfl, rfl⟩, (fun w S => Sat.unflat (Ls := [txM (⟨smR ys, ((numR 0 0 ys8).1 : Int), ((numR 0 0 ys10).1 : Int), smR ys12, smR ys14, ⟨a31, out31, c31⟩, ⟨a33, out33, c33⟩, ⟨a7, os, c7⟩, smR ys27, ⟨a8, ms, c8⟩⟩ : Order).txn, vrow e_Mark (⟨smR ys, ((numR 0 0 ys8).1 : Int), ((numR 0 0 ys10).1 : Int), smR ys12, smR ys14, ⟨a31, out31, c31⟩, ⟨a33, out33, c33⟩, ⟨a7, os, c7⟩, smR ys27, ⟨a8, ms, c8⟩⟩ : Order).f_Marks]) (Sat.unflat (Ls := txL (⟨smR ys, ((numR 0 0 ys8).1 : Int), ((numR 0 0 ys10).1 : Int), smR ys12, smR ys14, ⟨a31, out31, c31⟩, ⟨a33, out33, c33⟩, ⟨a7, os, c7⟩, smR ys27, ⟨a8, ms, c8⟩⟩ : Order).txn) S)) w S⟩
end
section
set_option linter.unusedVariables false
set_option linter.unusedSimpArgs false
set_option maxRecDepth 10000
open Go.RowKit Classical
theorem E9.le {xs ys : List UInt8} {i : Nat} (h : E9 xs i ys) : ys.length ≤ xs.length := by rw [h.1, List.length_drop]; omega
set_option maxHeartbeats 4000000 in
theorem order9_ {W : World} {F : List Res} {k i0 : Nat} {xs ys0 : List UInt8} {a : Option Addr} {c : Nat} {bd0 : Bool} (hs : SlR W e8 a xs) (he0 : E9 xs i0 ys0) (hsm : xs.length ≤ 70000000000000) (hcc : xs.length ≤ c) : CS Tryz.prog 30 #[.pointer (some ⟨k, 0, none⟩)] W (blk k (.cells #[.slice a (xs).length c, .int .i64 (i0 : Int), .bool bd0] 83 (0, 0)) :: F) (fun r L' => ∃ (q : Order) (ys' : List UInt8) (i' : Nat) (bd' : Bool), OWf q ∧ OrdLen q ∧ (q.f_Txn_Reads.xs.length ≤ 1000 ∧ q.f_Txn_Writes.xs.length ≤ 1000 ∧ q.f_Txn_Ops.xs.length ≤ 1000 ∧ q.f_Marks.xs.length ≤ 2000) ∧ E9 xs i' ys' ∧ Rd9 ys0 bd0 q bd' ys' ∧ r = .agg (e_Order.cells q).toArray ∧ L' = ordM q :: blk k (.cells #[.slice a (xs).length c, .int .i64 (i' : Int), .bool bd'] 83 (0, 0)) :: F) := by
 refine f_door (l0 := [(0, .pointer (some ⟨k, 0, none⟩))]) Tryz.func30 Tryz.ntmps30 rfl rfl rfl ?_
 refine c_seq ?_
 refine c_region ?_
 refine o_alloc rfl ti33 fun b2 => ?_
 refine l_nil ?_
 refine q_then ?_
 refine c_seq ?_
 refine c_region ?_
 refine o_build rfl sp33 ti33 rfl rfl ?_
 refine o_alloc rfl ti33 fun b3 => ?_
 refine o_storen rfl rfl ti33 rfl rfl rfl rfl ?_
 refine l_nil ?_
 refine q_then ?_
 refine c_seq ?_
 refine c_region ?_
 refine o_move rfl rfl ?_
 refine l_f2 ?_
 refine o_call rfl cal37 rfl (few9_x hs he0 hsm hcc) ?_
 rintro _ _ ⟨ys14, i14, bd14, he14, dr14, hb14, rfl, rfl⟩
 refine o_fieldAddr (q := ⟨b3, 0, none⟩) rfl rfl Tryz.underlying33 rfl ti26 rfl ?_
 refine o_fieldAddr (q := ⟨b3, 0, none⟩) rfl rfl Tryz.underlying26 rfl ti24 rfl ?_
 refine o_fieldAddr (q := ⟨b3, 0, none⟩) rfl rfl Tryz.underlying24 rfl ti3 rfl ?_
 refine l_f1 ?_
 refine o_store1 rfl rfl rfl ti3 rfl rfl ?_
 refine l_nil ?_
 refine q_then ?_
 refine c_seq ?_
 refine c_region ?_
 refine o_move rfl rfl ?_
 refine l_f1 ?_
 refine o_call rfl cal56 rfl (n9_x hs he14 hsm hcc) ?_
 rintro _ _ ⟨ys19, i19, bd19, he19, dr19, hb19, rfl, rfl⟩
 refine o_fieldAddr (q := ⟨b3, 0, none⟩) rfl rfl Tryz.underlying33 rfl ti26 rfl ?_
 refine o_fieldAddr (q := ⟨b3, 0, none⟩) rfl rfl Tryz.underlying26 rfl ti24 rfl ?_
 refine o_fieldAddr (q := ⟨b3, 1, none⟩) rfl rfl Tryz.underlying24 rfl ti22 rfl ?_
 refine l_f1 ?_
 refine o_store1 rfl rfl rfl ti22 rfl rfl ?_
 refine l_nil ?_
 refine q_then ?_
 refine c_seq ?_
 refine c_region ?_
 refine o_move rfl rfl ?_
 refine l_f1 ?_
 refine o_call rfl cal56 rfl (n9_x hs he19 hsm hcc) ?_
 rintro _ _ ⟨ys24, i24, bd24, he24, dr24, hb24, rfl, rfl⟩
 refine o_fieldAddr (q := ⟨b3, 0, none⟩) rfl rfl Tryz.underlying33 rfl ti26 rfl ?_
 refine o_fieldAddr (q := ⟨b3, 0, none⟩) rfl rfl Tryz.underlying26 rfl ti24 rfl ?_
 refine o_fieldAddr (q := ⟨b3, 2, none⟩) rfl rfl Tryz.underlying24 rfl ti22 rfl ?_
 refine l_f1 ?_
 refine o_store1 rfl rfl rfl ti22 rfl rfl ?_
 refine l_nil ?_
 refine q_then ?_
 refine c_seq ?_
 refine c_region ?_
 refine o_move rfl rfl ?_
 refine l_f1 ?_
 refine o_call rfl cal37 rfl (few9_x hs he24 hsm hcc) ?_
 rintro _ _ ⟨ys29, i29, bd29, he29, dr29, hb29, rfl, rfl⟩
 refine o_fieldAddr (q := ⟨b3, 0, none⟩) rfl rfl Tryz.underlying33 rfl ti26 rfl ?_
 refine o_fieldAddr (q := ⟨b3, 3, none⟩) rfl rfl Tryz.underlying26 rfl ti3 rfl ?_
 refine l_f1 ?_
 refine o_store1 rfl rfl rfl ti3 rfl rfl ?_
 refine l_nil ?_
 refine q_then ?_
 refine c_seq ?_
 refine c_region ?_
 refine o_move rfl rfl ?_
 refine l_f1 ?_
 refine o_call rfl cal37 rfl (few9_x hs he29 hsm hcc) ?_
 rintro _ _ ⟨ys33, i33, bd33, he33, dr33, hb33, rfl, rfl⟩
 refine o_fieldAddr (q := ⟨b3, 4, none⟩) rfl rfl Tryz.underlying33 rfl ti30 rfl ?_
 refine o_fieldAddr (q := ⟨b3, 4, none⟩) rfl rfl Tryz.underlying30 rfl ti3 rfl ?_
 refine l_f1 ?_
 refine o_store1 rfl rfl rfl ti3 rfl rfl ?_
 refine l_nil ?_
 refine q_then ?_
 refine c_seq ?_
 refine c_region ?_
 refine o_move rfl rfl ?_
 refine l_f1 ?_
 refine o_call rfl cal37 rfl (few9_x hs he33 hsm hcc) ?_
 rintro _ _ ⟨ys37, i37, bd37, he37, dr37, hb37, rfl, rfl⟩
 refine o_fieldAddr (q := ⟨b3, 4, none⟩) rfl rfl Tryz.underlying33 rfl ti30 rfl ?_
 refine o_fieldAddr (q := ⟨b3, 8, none⟩) rfl rfl Tryz.underlying30 rfl ti3 rfl ?_
 refine l_f1 ?_
 refine o_store1 rfl rfl rfl ti3 rfl rfl ?_
 refine l_nil ?_
 refine q_then ?_
 refine c_seq ?_
 refine c_seq ?_
 refine c_nilrow e_S ?_
 refine c_region ?_
 refine o_move rfl rfl ?_
 refine l_f2 ?_
 refine o_call rfl cal37 rfl (few9_x hs he37 hsm hcc) ?_
 rintro _ _ ⟨ys41, i41, bd41, he41, dr41, hb41, rfl, rfl⟩
 obtain ⟨m1, hm1⟩ : ∃ m : Nat, (m : Int) = fewR ys37 := ⟨(fewR ys37).toNat, by have := fewR_0 ys37; omega⟩
 have hm1l : m1 ≤ 1000 := by have := fewR_le ys37; omega
 refine l_eq (t := 41) (v' := .int .i64 (m1 : Int)) rfl (by exact congrArg (Value.int .i64) hm1.symm) ?_
 refine o_assign rfl rfl ?_
 refine l_nil ?_
 refine q_then ?_
 refine c_mid (α := (List ByteArray) × (Option Addr) × Nat × (List UInt8) × Nat × Bool) (fun z => [(0, .pointer (some ⟨k, 0, none⟩)), (2, .pointer (some ⟨b2, 0, none⟩)), (3, .pointer (some ⟨b3, 0, none⟩))]) (fun z => blk k (.cells #[.slice a (xs).length c, .int .i64 (z.2.2.2.2.1 : Int), .bool z.2.2.2.2.2] 83 (0, 0)) :: row e_S.T e_S.sz z.2.1 (z.1).length z.2.2.1 (flat e_S z.1) :: blk b3 (.cells #[.int .i64 (fewR ys0), .int .u64 ((numR 0 0 ys14).1 : Int), .int .u64 ((numR 0 0 ys19).1 : Int), .int .i64 (fewR ys24), .int .i64 (fewR ys29), .slice z.2.1 (z.1).length z.2.2.1, .slice none 0 0, .slice none 0 0, .int .i64 (fewR ys33), .slice none 0 0] 33 (0, 0)) :: blk b2 (.cells #[.int .i64 0, .int .u64 0, .int .u64 0, .int .i64 0, .int .i64 0, .slice none 0 0, .slice none 0 0, .slice none 0 0, .int .i64 0, .slice none 0 0] 33 (0, 0)) :: F) (fun z => E9 xs z.2.2.2.2.1 z.2.2.2.1 ∧ SecT ys37 bd37 z.1 z.2.2.2.2.2 z.2.2.2.1) ?_ ?_
 · -- cut
  refine c_block ?_
  refine c_loop (α := Nat × (List ByteArray) × (Option Addr) × Nat × (List UInt8) × Nat × Bool) (fun z => [(0, .pointer (some ⟨k, 0, none⟩)), (2, .pointer (some ⟨b2, 0, none⟩)), (3, .pointer (some ⟨b3, 0, none⟩)), (4, .int .i64 ((m1 : Int) - (z.1 : Int)))]) (fun z => blk k (.cells #[.slice a (xs).length c, .int .i64 (z.2.2.2.2.2.1 : Int), .bool z.2.2.2.2.2.2] 83 (0, 0)) :: row e_S.T e_S.sz z.2.2.1 (z.2.1).length z.2.2.2.1 (flat e_S z.2.1) :: blk b3 (.cells #[.int .i64 (fewR ys0), .int .u64 ((numR 0 0 ys14).1 : Int), .int .u64 ((numR 0 0 ys19).1 : Int), .int .i64 (fewR ys24), .int .i64 (fewR ys29), .slice z.2.2.1 (z.2.1).length z.2.2.2.1, .slice none 0 0, .slice none 0 0, .int .i64 (fewR ys33), .slice none 0 0] 33 (0, 0)) :: blk b2 (.cells #[.int .i64 0, .int .u64 0, .int .u64 0, .int .i64 0, .int .i64 0, .slice none 0 0, .slice none 0 0, .slice none 0 0, .int .i64 0, .slice none 0 0] 33 (0, 0)) :: F) (fun z => z.1 ≤ m1 ∧ E9 xs z.2.2.2.2.2.1 z.2.2.2.2.1 ∧ Tx9 ys41 m1 z.1 z.2.1 bd41 z.2.2.2.2.2.2 z.2.2.2.2.1) (fun z => m1 - z.1) (0, [], none, 0, ys41, i41, bd41) (by exact ⟨Nat.zero_le _, he41, Tx9.start _ _ _⟩) ⟨(by first | rfl | exact vint (by omega)), (by first | rfl | exact vint (by omega)), (by first | rfl | exact vint (by omega)), (by first | rfl | exact vint (by omega)), trivial⟩ (fun w S => S) ?_
  rintro ⟨j, out, a8, c8, yse, ie, bde⟩ ⟨hj, hee, hT⟩
  try dsimp only at *
  have hol := hT.len
  refine c_seq ?_
  refine c_seq ?_
  refine c_region ?_
  refine o_move rfl rfl ?_
  refine o_bin rfl rfl rfl b_gtr ?_
  refine o_move rfl rfl ?_
  refine l_split (t := 44) rfl (fun h1 => ?_) (fun h1 => ?_)
  · -- h1T
   have h1b := h1
   try simp only [decide_eq_true_eq] at h1
   refine o_yes rfl rfl rfl ?_
   refine o_move rfl rfl ?_
   refine o_yes rfl rfl rfl ?_
   refine o_nil rfl rfl ?_
   refine o_yes rfl rfl rfl ?_
   refine o_fieldAddr (q := ⟨k, 2, none⟩) rfl rfl Tryz.underlying83 rfl ti4 rfl ?_
   refine o_yes rfl rfl rfl ?_
   refine o_load1 rfl rfl Tryz.underlying4 rfl (rd_mem 0 rfl rfl) ?_
   refine o_yes rfl rfl rfl ?_
   refine o_not rfl rfl ?_
   refine o_pick_true rfl rfl rfl ?_
   refine l_nil ?_
   refine q_then ?_
   refine c_cond rfl (fun h2 => ?_) (fun h2 => ?_)
   · -- h2T
    have h2b := h2
    try simp only [decide_eq_true_eq, decide_eq_false_iff_not, Bool.not_eq_eq_eq_not, Bool.not_true, Bool.not_false, Bool.not_eq_true', Bool.not_eq_false', Int.not_lt, Int.not_le, Bool.or_eq_true, Bool.and_eq_true] at h2
    refine c_skip ?_
    refine q_then ?_
    refine c_seq ?_
    refine c_block ?_
    refine c_conv (fun w S => S.perm p2) ?_
    refine c_conv (fun w S => S.perm p2) ?_
    refine c_conv (fun w S => S.perm p2) ?_
    refine c_conv (fun w S => S.perm p3) ?_
    refine c_held [blk b2 (.cells #[.int .i64 0, .int .u64 0, .int .u64 0, .int .i64 0, .int .i64 0, .slice none 0 0, .slice none 0 0, .slice none 0 0, .int .i64 0, .slice none 0 0] 33 (0, 0))] (by kernel_rfl) rfl ?_
    refine h_take 0 rfl rfl (by kernel_rfl) (by kernel_rfl) (by kernel_rfl) (fun L0 => v_fieldAddr (q := ⟨b3, 4, none⟩) rfl rfl Tryz.underlying33 rfl ti30 rfl) ?_
    refine h_take 1 rfl rfl (by kernel_rfl) (by kernel_rfl) (by kernel_rfl) (fun L0 => v_fieldAddr (q := ⟨b3, 5, none⟩) rfl rfl Tryz.underlying30 rfl ti27 rfl) ?_
    refine h_take 3 rfl rfl (by kernel_rfl) (by kernel_rfl) (by kernel_rfl) (fun L0 => v_move rfl rfl) ?_
    refine h_many (is := [2, 4]) (by kernel_rfl) (by decide) (forall_cons ⟨_, rfl, ?_⟩ (forall_cons ⟨_, rfl, ?_⟩ forall_nil))
    · -- 2 comes first
     refine o_load1 rfl rfl Tryz.underlying27 rfl (rd_mem 3 rfl rfl) ?_
     refine l_nil ?_
     refine h_next ?_
     refine h_one 4 rfl (by kernel_rfl) ?_
     refine l_f1 ?_
     refine o_call rfl cal57 rfl (text9_x hs hee hsm hcc) ?_
     rintro _ _ ⟨out57, ys57, i57, bd57, a57, c57, hout57, he57, dr57, hb57, rfl, rfl⟩
     refine l_nil ?_
     refine q_conv (fun w S => S.perm p4) ?_
     refine q_conv (fun w S => S.perm p4) ?_
     refine q_conv (fun w S => S.perm p3) ?_
     refine q_conv (fun w S => S.perm p3) ?_
     refine q_conv (fun w S => S.perm p4) ?_
     refine h_next ?_
     refine h_more [row e8.T e8.sz a57 (out57).length c57 (flat e8 out57)] rfl ?_
     refine h_take 5 rfl rfl (by kernel_rfl) (by kernel_rfl) (by kernel_rfl) (fun L0 => v_bytesStr (e := e8) rfl rfl rfl Tryz.underlying34 Tryz.underlying5 Tryz.underlying9 (rds_own e8_ok 1 rfl)) ?_
     refine h_one 6 rfl (by kernel_rfl) ?_
     refine o_lit e_S_ok rfl Tryz.underlying27 rfl rfl rfl (lit_ok rfl) [bts out57] rfl rfl fun a59 => ?_
     refine l_nil ?_
     refine q_conv (fun w S => S.perm p5) ?_
     refine q_conv (fun w S => S.perm p5) ?_
     refine q_conv (fun w S => S.perm p5) ?_
     refine q_conv (fun w S => S.perm p3) ?_
     refine q_conv (fun w S => S.perm p5) ?_
     refine q_conv (fun w S => S.perm p5) ?_
     refine h_next ?_
     refine h_one 7 rfl (by kernel_rfl) ?_
     refine l_f4 ?_
     refine o_append e_S_ok rfl rfl rfl Tryz.underlying27 (rds_own e_S_ok 3 rfl) (by show (_ + _) * _ ≤ _; simp only [List.length_cons, List.length_nil]; omega) (by simp only [List.length_cons, List.length_nil]; omega) fun a60 c60 => ?_
     refine l_f3 ?_
     refine l_drop ?_
     refine l_nil ?_
     refine q_conv (fun w S => S.perm p4) ?_
     refine q_conv (fun w S => S.perm p4) ?_
     refine q_conv (fun w S => S.perm p2) ?_
     refine q_conv (fun w S => S.perm p4) ?_
     refine q_conv (fun w S => S.perm p4) ?_
     refine h_next ?_
     refine h_take 8 rfl rfl (by kernel_rfl) (by kernel_rfl) (by kernel_rfl) (fun L0 => v_fieldAddr (q := ⟨b3, 4, none⟩) rfl rfl Tryz.underlying33 rfl ti30 rfl) ?_
     refine h_take 9 rfl rfl (by kernel_rfl) (by kernel_rfl) (by kernel_rfl) (fun L0 => v_fieldAddr (q := ⟨b3, 5, none⟩) rfl rfl Tryz.underlying30 rfl ti27 rfl) ?_
     refine h_one 10 rfl (by kernel_rfl) ?_
     refine l_f4 ?_
     refine o_store1 rfl rfl rfl ti27 rfl rfl ?_
     refine l_nil ?_
     refine q_conv (fun w S => S.perm p4) ?_
     refine q_conv (fun w S => S.perm p4) ?_
     refine q_conv (fun w S => S.perm p2) ?_
     refine q_conv (fun w S => S.perm p4) ?_
     refine q_conv (fun w S => S.perm p4) ?_
     refine h_next ?_
     refine h_done (by kernel_rfl) ?_
     refine q_block ?_
     refine q_then ?_
     refine c_region ?_
     refine o_move rfl rfl ?_
     refine o_bin rfl rfl rfl (b_sub (wrap_i64 (by omega) (by omega))) ?_
     refine o_assign rfl rfl ?_
     refine l_nil ?_
     refine q_conv (fun w S => (S.perm p1).tail) ?_
     refine q_conv (fun w S => S.perm p1) ?_
     refine q_conv (fun w S => S.perm p2) ?_
     refine q_conv (fun w S => S.perm p3) ?_
     exact q_round (j + 1, out ++ [bts out57], a60, c60, ys57, i57, bd57) (by exact ⟨by omega, he57, by have h9 := hT.on (by omega) dr57; rw [← hout57, ← hb57] at h9; exact h9⟩) (by (try dsimp only); omega) ⟨(by first | rfl | exact vint (by omega)), (by first | rfl | exact vint (by omega)), (by first | rfl | exact vint (by omega)), (by first | rfl | exact vint (by omega)), trivial⟩ (fun w S => S)
    · -- 4 comes first
     refine l_f1 ?_
     refine o_call rfl cal57 rfl (text9_x hs hee hsm hcc) ?_
     rintro _ _ ⟨out57, ys57, i57, bd57, a57, c57, hout57, he57, dr57, hb57, rfl, rfl⟩
     refine l_nil ?_
     refine q_conv (fun w S => S.perm p4) ?_
     refine q_conv (fun w S => S.perm p4) ?_
     refine q_conv (fun w S => S.perm p3) ?_
     refine q_conv (fun w S => S.perm p3) ?_
     refine q_conv (fun w S => S.perm p4) ?_
     refine h_next ?_
     refine h_more [row e8.T e8.sz a57 (out57).length c57 (flat e8 out57)] rfl ?_
     refine h_take 5 rfl rfl (by kernel_rfl) (by kernel_rfl) (by kernel_rfl) (fun L0 => v_bytesStr (e := e8) rfl rfl rfl Tryz.underlying34 Tryz.underlying5 Tryz.underlying9 (rds_own e8_ok 1 rfl)) ?_
     refine h_many (is := [2, 6]) (by kernel_rfl) (by decide) (forall_cons ⟨_, rfl, ?_⟩ (forall_cons ⟨_, rfl, ?_⟩ forall_nil))
     · -- 2 comes first
      refine o_load1 rfl rfl Tryz.underlying27 rfl (rd_mem 4 rfl rfl) ?_
      refine l_nil ?_
      refine h_next ?_
      refine h_one 6 rfl (by kernel_rfl) ?_
      refine o_lit e_S_ok rfl Tryz.underlying27 rfl rfl rfl (lit_ok rfl) [bts out57] rfl rfl fun a59 => ?_
      refine l_nil ?_
      refine q_conv (fun w S => S.perm p5) ?_
      refine q_conv (fun w S => S.perm p5) ?_
      refine q_conv (fun w S => S.perm p5) ?_
      refine q_conv (fun w S => S.perm p3) ?_
      refine q_conv (fun w S => S.perm p5) ?_
      refine q_conv (fun w S => S.perm p5) ?_
      refine h_next ?_
      refine h_one 7 rfl (by kernel_rfl) ?_
      refine l_f4 ?_
      refine o_append e_S_ok rfl rfl rfl Tryz.underlying27 (rds_own e_S_ok 3 rfl) (by show (_ + _) * _ ≤ _; simp only [List.length_cons, List.length_nil]; omega) (by simp only [List.length_cons, List.length_nil]; omega) fun a60 c60 => ?_
      refine l_f3 ?_
      refine l_drop ?_
      refine l_nil ?_
      refine q_conv (fun w S => S.perm p4) ?_
      refine q_conv (fun w S => S.perm p4) ?_
      refine q_conv (fun w S => S.perm p2) ?_
      refine q_conv (fun w S => S.perm p4) ?_
      refine q_conv (fun w S => S.perm p4) ?_
      refine h_next ?_
      refine h_take 8 rfl rfl (by kernel_rfl) (by kernel_rfl) (by kernel_rfl) (fun L0 => v_fieldAddr (q := ⟨b3, 4, none⟩) rfl rfl Tryz.underlying33 rfl ti30 rfl) ?_
      refine h_take 9 rfl rfl (by kernel_rfl) (by kernel_rfl) (by kernel_rfl) (fun L0 => v_fieldAddr (q := ⟨b3, 5, none⟩) rfl rfl Tryz.underlying30 rfl ti27 rfl) ?_
      refine h_one 10 rfl (by kernel_rfl) ?_
      refine l_f4 ?_
      refine o_store1 rfl rfl rfl ti27 rfl rfl ?_
      refine l_nil ?_
      refine q_conv (fun w S => S.perm p4) ?_
      refine q_conv (fun w S => S.perm p4) ?_
      refine q_conv (fun w S => S.perm p2) ?_
      refine q_conv (fun w S => S.perm p4) ?_
      refine q_conv (fun w S => S.perm p4) ?_
      refine h_next ?_
      refine h_done (by kernel_rfl) ?_
      refine q_block ?_
      refine q_then ?_
      refine c_region ?_
      refine o_move rfl rfl ?_
      refine o_bin rfl rfl rfl (b_sub (wrap_i64 (by omega) (by omega))) ?_
      refine o_assign rfl rfl ?_
      refine l_nil ?_
      refine q_conv (fun w S => (S.perm p1).tail) ?_
      refine q_conv (fun w S => S.perm p1) ?_
      refine q_conv (fun w S => S.perm p2) ?_
      refine q_conv (fun w S => S.perm p3) ?_
      exact q_round (j + 1, out ++ [bts out57], a60, c60, ys57, i57, bd57) (by exact ⟨by omega, he57, by have h9 := hT.on (by omega) dr57; rw [← hout57, ← hb57] at h9; exact h9⟩) (by (try dsimp only); omega) ⟨(by first | rfl | exact vint (by omega)), (by first | rfl | exact vint (by omega)), (by first | rfl | exact vint (by omega)), (by first | rfl | exact vint (by omega)), trivial⟩ (fun w S => S)
     · -- 6 comes first
      refine o_lit e_S_ok rfl Tryz.underlying27 rfl rfl rfl (lit_ok rfl) [bts out57] rfl rfl fun a59 => ?_
      refine l_nil ?_
      refine q_conv (fun w S => S.perm p5) ?_
      refine q_conv (fun w S => S.perm p5) ?_
      refine q_conv (fun w S => S.perm p5) ?_
      refine q_conv (fun w S => S.perm p3) ?_
      refine q_conv (fun w S => S.perm p5) ?_
      refine q_conv (fun w S => S.perm p5) ?_
      refine h_next ?_
      refine h_one 2 rfl (by kernel_rfl) ?_
      refine o_load1 rfl rfl Tryz.underlying27 rfl (rd_mem 5 rfl rfl) ?_
      refine l_nil ?_
      refine h_next ?_
      refine h_one 7 rfl (by kernel_rfl) ?_
      refine l_f4 ?_
      refine o_append e_S_ok rfl rfl rfl Tryz.underlying27 (rds_own e_S_ok 3 rfl) (by show (_ + _) * _ ≤ _; simp only [List.length_cons, List.length_nil]; omega) (by simp only [List.length_cons, List.length_nil]; omega) fun a60 c60 => ?_
      refine l_f3 ?_
      refine l_drop ?_
      refine l_nil ?_
      refine q_conv (fun w S => S.perm p4) ?_
      refine q_conv (fun w S => S.perm p4) ?_
      refine q_conv (fun w S => S.perm p2) ?_
      refine q_conv (fun w S => S.perm p4) ?_
      refine q_conv (fun w S => S.perm p4) ?_
      refine h_next ?_
      refine h_take 8 rfl rfl (by kernel_rfl) (by kernel_rfl) (by kernel_rfl) (fun L0 => v_fieldAddr (q := ⟨b3, 4, none⟩) rfl rfl Tryz.underlying33 rfl ti30 rfl) ?_
      refine h_take 9 rfl rfl (by kernel_rfl) (by kernel_rfl) (by kernel_rfl) (fun L0 => v_fieldAddr (q := ⟨b3, 5, none⟩) rfl rfl Tryz.underlying30 rfl ti27 rfl) ?_
      refine h_one 10 rfl (by kernel_rfl) ?_
      refine l_f4 ?_
      refine o_store1 rfl rfl rfl ti27 rfl rfl ?_
      refine l_nil ?_
      refine q_conv (fun w S => S.perm p4) ?_
      refine q_conv (fun w S => S.perm p4) ?_
      refine q_conv (fun w S => S.perm p2) ?_
      refine q_conv (fun w S => S.perm p4) ?_
      refine q_conv (fun w S => S.perm p4) ?_
      refine h_next ?_
      refine h_done (by kernel_rfl) ?_
      refine q_block ?_
      refine q_then ?_
      refine c_region ?_
      refine o_move rfl rfl ?_
      refine o_bin rfl rfl rfl (b_sub (wrap_i64 (by omega) (by omega))) ?_
      refine o_assign rfl rfl ?_
      refine l_nil ?_
      refine q_conv (fun w S => (S.perm p1).tail) ?_
      refine q_conv (fun w S => S.perm p1) ?_
      refine q_conv (fun w S => S.perm p2) ?_
      refine q_conv (fun w S => S.perm p3) ?_
      exact q_round (j + 1, out ++ [bts out57], a60, c60, ys57, i57, bd57) (by exact ⟨by omega, he57, by have h9 := hT.on (by omega) dr57; rw [← hout57, ← hb57] at h9; exact h9⟩) (by (try dsimp only); omega) ⟨(by first | rfl | exact vint (by omega)), (by first | rfl | exact vint (by omega)), (by first | rfl | exact vint (by omega)), (by first | rfl | exact vint (by omega)), trivial⟩ (fun w S => S)
   · -- h2F
    have h2b := h2
    try simp only [decide_eq_true_eq, decide_eq_false_iff_not, Bool.not_eq_eq_eq_not, Bool.not_true, Bool.not_false, Bool.not_eq_true', Bool.not_eq_false', Int.not_lt, Int.not_le, Bool.or_eq_true, Bool.and_eq_true] at h2
    refine c_exit ?_
    refine q_pass_exit ?_
    refine q_pass_exit ?_
    refine q_hit ?_
    exact q_mid (out, a8, c8, yse, ie, bde) (by exact ⟨hee, hT.sec hm1 dr41 hb41 hj (by first | exact .inl (by omega) | exact .inr (by simp_all))⟩) ⟨(by first | rfl | exact vint (by omega)), (by first | rfl | exact vint (by omega)), (by first | rfl | exact vint (by omega)), trivial⟩ (fun w S => S)
  · -- h1F
   have h1b := h1
   try simp only [decide_eq_false_iff_not, Int.not_lt, Int.not_le] at h1
   refine o_no rfl rfl rfl rfl ?_
   refine o_no rfl rfl rfl rfl ?_
   refine o_no rfl rfl rfl rfl ?_
   refine o_no rfl rfl rfl rfl ?_
   refine o_no rfl rfl rfl rfl ?_
   refine o_pick_false rfl rfl rfl ?_
   refine l_nil ?_
   refine q_then ?_
   refine c_false rfl ?_
   refine c_exit ?_
   refine q_pass_exit ?_
   refine q_pass_exit ?_
   refine q_hit ?_
   exact q_mid (out, a8, c8, yse, ie, bde) (by exact ⟨hee, hT.sec hm1 dr41 hb41 hj (by first | exact .inl (by omega) | exact .inr (by simp_all))⟩) ⟨(by first | rfl | exact vint (by omega)), (by first | rfl | exact vint (by omega)), (by first | rfl | exact vint (by omega)), trivial⟩ (fun w S => S)
 · -- behind the cut
  rintro ⟨rs, a5, c5, ysR, iR, bdR⟩ ⟨heR, hSR⟩
  try dsimp only at *
  refine c_seq ?_
  refine c_seq ?_
  refine c_nilrow e_S ?_
  refine c_region ?_
  refine o_move rfl rfl ?_
  refine l_f1 ?_
  refine o_call rfl cal37 rfl (few9_x hs heR hsm hcc) ?_
  rintro _ _ ⟨ys64, i64, bd64, he64, dr64, hb64, rfl, rfl⟩
  obtain ⟨m2, hm2⟩ : ∃ m : Nat, (m : Int) = fewR ysR := ⟨(fewR ysR).toNat, by have := fewR_0 ysR; omega⟩
  have hm2l : m2 ≤ 1000 := by have := fewR_le ysR; omega
  refine l_eq (t := 64) (v' := .int .i64 (m2 : Int)) rfl (by exact congrArg (Value.int .i64) hm2.symm) ?_
  refine o_assign rfl rfl ?_
  refine l_nil ?_
  refine q_then ?_
  refine c_mid (α := (List ByteArray) × (Option Addr) × Nat × (List UInt8) × Nat × Bool) (fun z => [(0, .pointer (some ⟨k, 0, none⟩)), (2, .pointer (some ⟨b2, 0, none⟩)), (3, .pointer (some ⟨b3, 0, none⟩))]) (fun z => blk k (.cells #[.slice a (xs).length c, .int .i64 (z.2.2.2.2.1 : Int), .bool z.2.2.2.2.2] 83 (0, 0)) :: row e_S.T e_S.sz z.2.1 (z.1).length z.2.2.1 (flat e_S z.1) :: row e_S.T e_S.sz a5 (rs).length c5 (flat e_S rs) :: blk b3 (.cells #[.int .i64 (fewR ys0), .int .u64 ((numR 0 0 ys14).1 : Int), .int .u64 ((numR 0 0 ys19).1 : Int), .int .i64 (fewR ys24), .int .i64 (fewR ys29), .slice a5 (rs).length c5, .slice z.2.1 (z.1).length z.2.2.1, .slice none 0 0, .int .i64 (fewR ys33), .slice none 0 0] 33 (0, 0)) :: blk b2 (.cells #[.int .i64 0, .int .u64 0, .int .u64 0, .int .i64 0, .int .i64 0, .slice none 0 0, .slice none 0 0, .slice none 0 0, .int .i64 0, .slice none 0 0] 33 (0, 0)) :: F) (fun z => E9 xs z.2.2.2.2.1 z.2.2.2.1 ∧ SecT ysR bdR z.1 z.2.2.2.2.2 z.2.2.2.1) ?_ ?_
  · -- cut
   refine c_block ?_
   refine c_loop (α := Nat × (List ByteArray) × (Option Addr) × Nat × (List UInt8) × Nat × Bool) (fun z => [(0, .pointer (some ⟨k, 0, none⟩)), (2, .pointer (some ⟨b2, 0, none⟩)), (3, .pointer (some ⟨b3, 0, none⟩)), (5, .int .i64 ((m2 : Int) - (z.1 : Int)))]) (fun z => blk k (.cells #[.slice a (xs).length c, .int .i64 (z.2.2.2.2.2.1 : Int), .bool z.2.2.2.2.2.2] 83 (0, 0)) :: row e_S.T e_S.sz z.2.2.1 (z.2.1).length z.2.2.2.1 (flat e_S z.2.1) :: row e_S.T e_S.sz a5 (rs).length c5 (flat e_S rs) :: blk b3 (.cells #[.int .i64 (fewR ys0), .int .u64 ((numR 0 0 ys14).1 : Int), .int .u64 ((numR 0 0 ys19).1 : Int), .int .i64 (fewR ys24), .int .i64 (fewR ys29), .slice a5 (rs).length c5, .slice z.2.2.1 (z.2.1).length z.2.2.2.1, .slice none 0 0, .int .i64 (fewR ys33), .slice none 0 0] 33 (0, 0)) :: blk b2 (.cells #[.int .i64 0, .int .u64 0, .int .u64 0, .int .i64 0, .int .i64 0, .slice none 0 0, .slice none 0 0, .slice none 0 0, .int .i64 0, .slice none 0 0] 33 (0, 0)) :: F) (fun z => z.1 ≤ m2 ∧ E9 xs z.2.2.2.2.2.1 z.2.2.2.2.1 ∧ Tx9 ys64 m2 z.1 z.2.1 bd64 z.2.2.2.2.2.2 z.2.2.2.2.1) (fun z => m2 - z.1) (0, [], none, 0, ys64, i64, bd64) (by exact ⟨Nat.zero_le _, he64, Tx9.start _ _ _⟩) ⟨(by first | rfl | exact vint (by omega)), (by first | rfl | exact vint (by omega)), (by first | rfl | exact vint (by omega)), (by first | rfl | exact vint (by omega)), trivial⟩ (fun w S => S) ?_
   rintro ⟨j, out, a8, c8, yse, ie, bde⟩ ⟨hj, hee, hT⟩
   try dsimp only at *
   have hol := hT.len
   refine c_seq ?_
   refine c_seq ?_
   refine c_region ?_
   refine o_move rfl rfl ?_
   refine o_bin rfl rfl rfl b_gtr ?_
   refine o_move rfl rfl ?_
   refine l_split (t := 67) rfl (fun h3 => ?_) (fun h3 => ?_)
   · -- h3T
    have h3b := h3
    try simp only [decide_eq_true_eq] at h3
    refine o_yes rfl rfl rfl ?_
    refine o_move rfl rfl ?_
    refine o_yes rfl rfl rfl ?_
    refine o_nil rfl rfl ?_
    refine o_yes rfl rfl rfl ?_
    refine o_fieldAddr (q := ⟨k, 2, none⟩) rfl rfl Tryz.underlying83 rfl ti4 rfl ?_
    refine o_yes rfl rfl rfl ?_
    refine o_load1 rfl rfl Tryz.underlying4 rfl (rd_mem 0 rfl rfl) ?_
    refine o_yes rfl rfl rfl ?_
    refine o_not rfl rfl ?_
    refine o_pick_true rfl rfl rfl ?_
    refine l_nil ?_
    refine q_then ?_
    refine c_cond rfl (fun h4 => ?_) (fun h4 => ?_)
    · -- h4T
     have h4b := h4
     try simp only [decide_eq_true_eq, decide_eq_false_iff_not, Bool.not_eq_eq_eq_not, Bool.not_true, Bool.not_false, Bool.not_eq_true', Bool.not_eq_false', Int.not_lt, Int.not_le, Bool.or_eq_true, Bool.and_eq_true] at h4
     refine c_skip ?_
     refine q_then ?_
     refine c_seq ?_
     refine c_block ?_
     refine c_conv (fun w S => S.perm p3) ?_
     refine c_conv (fun w S => S.perm p2) ?_
     refine c_conv (fun w S => S.perm p2) ?_
     refine c_conv (fun w S => S.perm p4) ?_
     refine c_conv (fun w S => S.perm p4) ?_
     refine c_held [row e_S.T e_S.sz a5 (rs).length c5 (flat e_S rs), blk b2 (.cells #[.int .i64 0, .int .u64 0, .int .u64 0, .int .i64 0, .int .i64 0, .slice none 0 0, .slice none 0 0, .slice none 0 0, .int .i64 0, .slice none 0 0] 33 (0, 0))] (by kernel_rfl) rfl ?_
     refine h_take 0 rfl rfl (by kernel_rfl) (by kernel_rfl) (by kernel_rfl) (fun L0 => v_fieldAddr (q := ⟨b3, 4, none⟩) rfl rfl Tryz.underlying33 rfl ti30 rfl) ?_
     refine h_take 1 rfl rfl (by kernel_rfl) (by kernel_rfl) (by kernel_rfl) (fun L0 => v_fieldAddr (q := ⟨b3, 6, none⟩) rfl rfl Tryz.underlying30 rfl ti27 rfl) ?_
     refine h_take 3 rfl rfl (by kernel_rfl) (by kernel_rfl) (by kernel_rfl) (fun L0 => v_move rfl rfl) ?_
     refine h_many (is := [2, 4]) (by kernel_rfl) (by decide) (forall_cons ⟨_, rfl, ?_⟩ (forall_cons ⟨_, rfl, ?_⟩ forall_nil))
     · -- 2 comes first
      refine o_load1 rfl rfl Tryz.underlying27 rfl (rd_mem 4 rfl rfl) ?_
      refine l_nil ?_
      refine h_next ?_
      refine h_one 4 rfl (by kernel_rfl) ?_
      refine l_f2 ?_
      refine o_call rfl cal57 rfl (text9_x hs hee hsm hcc) ?_
      rintro _ _ ⟨out80, ys80, i80, bd80, a80, c80, hout80, he80, dr80, hb80, rfl, rfl⟩
      refine l_nil ?_
      refine q_conv (fun w S => S.perm p5) ?_
      refine q_conv (fun w S => S.perm p5) ?_
      refine q_conv (fun w S => S.perm p3) ?_
      refine q_conv (fun w S => S.perm p3) ?_
      refine q_conv (fun w S => S.perm p5) ?_
      refine q_conv (fun w S => S.perm p5) ?_
      refine h_next ?_
      refine h_more [row e8.T e8.sz a80 (out80).length c80 (flat e8 out80)] rfl ?_
      refine h_take 5 rfl rfl (by kernel_rfl) (by kernel_rfl) (by kernel_rfl) (fun L0 => v_bytesStr (e := e8) rfl rfl rfl Tryz.underlying34 Tryz.underlying5 Tryz.underlying9 (rds_own e8_ok 2 rfl)) ?_
      refine h_one 6 rfl (by kernel_rfl) ?_
      refine o_lit e_S_ok rfl Tryz.underlying27 rfl rfl rfl (lit_ok rfl) [bts out80] rfl rfl fun a82 => ?_
      refine l_nil ?_
      refine q_conv (fun w S => S.perm p6) ?_
      refine q_conv (fun w S => S.perm p6) ?_
      refine q_conv (fun w S => S.perm p6) ?_
      refine q_conv (fun w S => S.perm p3) ?_
      refine q_conv (fun w S => S.perm p6) ?_
      refine q_conv (fun w S => S.perm p6) ?_
      refine q_conv (fun w S => S.perm p6) ?_
      refine h_next ?_
      refine h_one 7 rfl (by kernel_rfl) ?_
      refine l_f5 ?_
      refine o_append e_S_ok rfl rfl rfl Tryz.underlying27 (rds_own e_S_ok 4 rfl) (by show (_ + _) * _ ≤ _; simp only [List.length_cons, List.length_nil]; omega) (by simp only [List.length_cons, List.length_nil]; omega) fun a83 c83 => ?_
      refine l_f4 ?_
      refine l_drop ?_
      refine l_nil ?_
      refine q_conv (fun w S => S.perm p5) ?_
      refine q_conv (fun w S => S.perm p5) ?_
      refine q_conv (fun w S => S.perm p2) ?_
      refine q_conv (fun w S => S.perm p5) ?_
      refine q_conv (fun w S => S.perm p5) ?_
      refine q_conv (fun w S => S.perm p5) ?_
      refine h_next ?_
      refine h_take 8 rfl rfl (by kernel_rfl) (by kernel_rfl) (by kernel_rfl) (fun L0 => v_fieldAddr (q := ⟨b3, 4, none⟩) rfl rfl Tryz.underlying33 rfl ti30 rfl) ?_
      refine h_take 9 rfl rfl (by kernel_rfl) (by kernel_rfl) (by kernel_rfl) (fun L0 => v_fieldAddr (q := ⟨b3, 6, none⟩) rfl rfl Tryz.underlying30 rfl ti27 rfl) ?_
      refine h_one 10 rfl (by kernel_rfl) ?_
      refine l_f5 ?_
      refine o_store1 rfl rfl rfl ti27 rfl rfl ?_
      refine l_nil ?_
      refine q_conv (fun w S => S.perm p5) ?_
      refine q_conv (fun w S => S.perm p5) ?_
      refine q_conv (fun w S => S.perm p2) ?_
      refine q_conv (fun w S => S.perm p5) ?_
      refine q_conv (fun w S => S.perm p5) ?_
      refine q_conv (fun w S => S.perm p5) ?_
      refine h_next ?_
      refine h_done (by kernel_rfl) ?_
      refine q_block ?_
      refine q_then ?_
      refine c_region ?_
      refine o_move rfl rfl ?_
      refine o_bin rfl rfl rfl (b_sub (wrap_i64 (by omega) (by omega))) ?_
      refine o_assign rfl rfl ?_
      refine l_nil ?_
      refine q_conv (fun w S => (S.perm p2).tail) ?_
      refine q_conv (fun w S => S.perm p1) ?_
      refine q_conv (fun w S => S.perm p2) ?_
      refine q_conv (fun w S => S.perm p2) ?_
      refine q_conv (fun w S => S.perm p3) ?_
      refine q_conv (fun w S => S.perm p4) ?_
      exact q_round (j + 1, out ++ [bts out80], a83, c83, ys80, i80, bd80) (by exact ⟨by omega, he80, by have h9 := hT.on (by omega) dr80; rw [← hout80, ← hb80] at h9; exact h9⟩) (by (try dsimp only); omega) ⟨(by first | rfl | exact vint (by omega)), (by first | rfl | exact vint (by omega)), (by first | rfl | exact vint (by omega)), (by first | rfl | exact vint (by omega)), trivial⟩ (fun w S => S)
     · -- 4 comes first
      refine l_f2 ?_
      refine o_call rfl cal57 rfl (text9_x hs hee hsm hcc) ?_
      rintro _ _ ⟨out80, ys80, i80, bd80, a80, c80, hout80, he80, dr80, hb80, rfl, rfl⟩
      refine l_nil ?_
      refine q_conv (fun w S => S.perm p5) ?_
      refine q_conv (fun w S => S.perm p5) ?_
      refine q_conv (fun w S => S.perm p3) ?_
      refine q_conv (fun w S => S.perm p3) ?_
      refine q_conv (fun w S => S.perm p5) ?_
      refine q_conv (fun w S => S.perm p5) ?_
      refine h_next ?_
      refine h_more [row e8.T e8.sz a80 (out80).length c80 (flat e8 out80)] rfl ?_
      refine h_take 5 rfl rfl (by kernel_rfl) (by kernel_rfl) (by kernel_rfl) (fun L0 => v_bytesStr (e := e8) rfl rfl rfl Tryz.underlying34 Tryz.underlying5 Tryz.underlying9 (rds_own e8_ok 2 rfl)) ?_
      refine h_many (is := [2, 6]) (by kernel_rfl) (by decide) (forall_cons ⟨_, rfl, ?_⟩ (forall_cons ⟨_, rfl, ?_⟩ forall_nil))
      · -- 2 comes first
       refine o_load1 rfl rfl Tryz.underlying27 rfl (rd_mem 5 rfl rfl) ?_
       refine l_nil ?_
       refine h_next ?_
       refine h_one 6 rfl (by kernel_rfl) ?_
       refine o_lit e_S_ok rfl Tryz.underlying27 rfl rfl rfl (lit_ok rfl) [bts out80] rfl rfl fun a82 => ?_
       refine l_nil ?_
       refine q_conv (fun w S => S.perm p6) ?_
       refine q_conv (fun w S => S.perm p6) ?_
       refine q_conv (fun w S => S.perm p6) ?_
       refine q_conv (fun w S => S.perm p3) ?_
       refine q_conv (fun w S => S.perm p6) ?_
       refine q_conv (fun w S => S.perm p6) ?_
       refine q_conv (fun w S => S.perm p6) ?_
       refine h_next ?_
       refine h_one 7 rfl (by kernel_rfl) ?_
       refine l_f5 ?_
       refine o_append e_S_ok rfl rfl rfl Tryz.underlying27 (rds_own e_S_ok 4 rfl) (by show (_ + _) * _ ≤ _; simp only [List.length_cons, List.length_nil]; omega) (by simp only [List.length_cons, List.length_nil]; omega) fun a83 c83 => ?_
       refine l_f4 ?_
       refine l_drop ?_
       refine l_nil ?_
       refine q_conv (fun w S => S.perm p5) ?_
       refine q_conv (fun w S => S.perm p5) ?_
       refine q_conv (fun w S => S.perm p2) ?_
       refine q_conv (fun w S => S.perm p5) ?_
       refine q_conv (fun w S => S.perm p5) ?_
       refine q_conv (fun w S => S.perm p5) ?_
       refine h_next ?_
       refine h_take 8 rfl rfl (by kernel_rfl) (by kernel_rfl) (by kernel_rfl) (fun L0 => v_fieldAddr (q := ⟨b3, 4, none⟩) rfl rfl Tryz.underlying33 rfl ti30 rfl) ?_
       refine h_take 9 rfl rfl (by kernel_rfl) (by kernel_rfl) (by kernel_rfl) (fun L0 => v_fieldAddr (q := ⟨b3, 6, none⟩) rfl rfl Tryz.underlying30 rfl ti27 rfl) ?_
       refine h_one 10 rfl (by kernel_rfl) ?_
       refine l_f5 ?_
       refine o_store1 rfl rfl rfl ti27 rfl rfl ?_
       refine l_nil ?_
       refine q_conv (fun w S => S.perm p5) ?_
       refine q_conv (fun w S => S.perm p5) ?_
       refine q_conv (fun w S => S.perm p2) ?_
       refine q_conv (fun w S => S.perm p5) ?_
       refine q_conv (fun w S => S.perm p5) ?_
       refine q_conv (fun w S => S.perm p5) ?_
       refine h_next ?_
       refine h_done (by kernel_rfl) ?_
       refine q_block ?_
       refine q_then ?_
       refine c_region ?_
       refine o_move rfl rfl ?_
       refine o_bin rfl rfl rfl (b_sub (wrap_i64 (by omega) (by omega))) ?_
       refine o_assign rfl rfl ?_
       refine l_nil ?_
       refine q_conv (fun w S => (S.perm p2).tail) ?_
       refine q_conv (fun w S => S.perm p1) ?_
       refine q_conv (fun w S => S.perm p2) ?_
       refine q_conv (fun w S => S.perm p2) ?_
       refine q_conv (fun w S => S.perm p3) ?_
       refine q_conv (fun w S => S.perm p4) ?_
       exact q_round (j + 1, out ++ [bts out80], a83, c83, ys80, i80, bd80) (by exact ⟨by omega, he80, by have h9 := hT.on (by omega) dr80; rw [← hout80, ← hb80] at h9; exact h9⟩) (by (try dsimp only); omega) ⟨(by first | rfl | exact vint (by omega)), (by first | rfl | exact vint (by omega)), (by first | rfl | exact vint (by omega)), (by first | rfl | exact vint (by omega)), trivial⟩ (fun w S => S)
      · -- 6 comes first
       refine o_lit e_S_ok rfl Tryz.underlying27 rfl rfl rfl (lit_ok rfl) [bts out80] rfl rfl fun a82 => ?_
       refine l_nil ?_
       refine q_conv (fun w S => S.perm p6) ?_
       refine q_conv (fun w S => S.perm p6) ?_
       refine q_conv (fun w S => S.perm p6) ?_
       refine q_conv (fun w S => S.perm p3) ?_
       refine q_conv (fun w S => S.perm p6) ?_
       refine q_conv (fun w S => S.perm p6) ?_
       refine q_conv (fun w S => S.perm p6) ?_
       refine h_next ?_
       refine h_one 2 rfl (by kernel_rfl) ?_
       refine o_load1 rfl rfl Tryz.underlying27 rfl (rd_mem 6 rfl rfl) ?_
       refine l_nil ?_
       refine h_next ?_
       refine h_one 7 rfl (by kernel_rfl) ?_
       refine l_f5 ?_
       refine o_append e_S_ok rfl rfl rfl Tryz.underlying27 (rds_own e_S_ok 4 rfl) (by show (_ + _) * _ ≤ _; simp only [List.length_cons, List.length_nil]; omega) (by simp only [List.length_cons, List.length_nil]; omega) fun a83 c83 => ?_
       refine l_f4 ?_
       refine l_drop ?_
       refine l_nil ?_
       refine q_conv (fun w S => S.perm p5) ?_
       refine q_conv (fun w S => S.perm p5) ?_
       refine q_conv (fun w S => S.perm p2) ?_
       refine q_conv (fun w S => S.perm p5) ?_
       refine q_conv (fun w S => S.perm p5) ?_
       refine q_conv (fun w S => S.perm p5) ?_
       refine h_next ?_
       refine h_take 8 rfl rfl (by kernel_rfl) (by kernel_rfl) (by kernel_rfl) (fun L0 => v_fieldAddr (q := ⟨b3, 4, none⟩) rfl rfl Tryz.underlying33 rfl ti30 rfl) ?_
       refine h_take 9 rfl rfl (by kernel_rfl) (by kernel_rfl) (by kernel_rfl) (fun L0 => v_fieldAddr (q := ⟨b3, 6, none⟩) rfl rfl Tryz.underlying30 rfl ti27 rfl) ?_
       refine h_one 10 rfl (by kernel_rfl) ?_
       refine l_f5 ?_
       refine o_store1 rfl rfl rfl ti27 rfl rfl ?_
       refine l_nil ?_
       refine q_conv (fun w S => S.perm p5) ?_
       refine q_conv (fun w S => S.perm p5) ?_
       refine q_conv (fun w S => S.perm p2) ?_
       refine q_conv (fun w S => S.perm p5) ?_
       refine q_conv (fun w S => S.perm p5) ?_
       refine q_conv (fun w S => S.perm p5) ?_
       refine h_next ?_
       refine h_done (by kernel_rfl) ?_
       refine q_block ?_
       refine q_then ?_
       refine c_region ?_
       refine o_move rfl rfl ?_
       refine o_bin rfl rfl rfl (b_sub (wrap_i64 (by omega) (by omega))) ?_
       refine o_assign rfl rfl ?_
       refine l_nil ?_
       refine q_conv (fun w S => (S.perm p2).tail) ?_
       refine q_conv (fun w S => S.perm p1) ?_
       refine q_conv (fun w S => S.perm p2) ?_
       refine q_conv (fun w S => S.perm p2) ?_
       refine q_conv (fun w S => S.perm p3) ?_
       refine q_conv (fun w S => S.perm p4) ?_
       exact q_round (j + 1, out ++ [bts out80], a83, c83, ys80, i80, bd80) (by exact ⟨by omega, he80, by have h9 := hT.on (by omega) dr80; rw [← hout80, ← hb80] at h9; exact h9⟩) (by (try dsimp only); omega) ⟨(by first | rfl | exact vint (by omega)), (by first | rfl | exact vint (by omega)), (by first | rfl | exact vint (by omega)), (by first | rfl | exact vint (by omega)), trivial⟩ (fun w S => S)
    · -- h4F
     have h4b := h4
     try simp only [decide_eq_true_eq, decide_eq_false_iff_not, Bool.not_eq_eq_eq_not, Bool.not_true, Bool.not_false, Bool.not_eq_true', Bool.not_eq_false', Int.not_lt, Int.not_le, Bool.or_eq_true, Bool.and_eq_true] at h4
     refine c_exit ?_
     refine q_pass_exit ?_
     refine q_pass_exit ?_
     refine q_hit ?_
     exact q_mid (out, a8, c8, yse, ie, bde) (by exact ⟨hee, hT.sec hm2 dr64 hb64 hj (by first | exact .inl (by omega) | exact .inr (by simp_all))⟩) ⟨(by first | rfl | exact vint (by omega)), (by first | rfl | exact vint (by omega)), (by first | rfl | exact vint (by omega)), trivial⟩ (fun w S => S)
   · -- h3F
    have h3b := h3
    try simp only [decide_eq_false_iff_not, Int.not_lt, Int.not_le] at h3
    refine o_no rfl rfl rfl rfl ?_
    refine o_no rfl rfl rfl rfl ?_
    refine o_no rfl rfl rfl rfl ?_
    refine o_no rfl rfl rfl rfl ?_
    refine o_no rfl rfl rfl rfl ?_
    refine o_pick_false rfl rfl rfl ?_
    refine l_nil ?_
    refine q_then ?_
    refine c_false rfl ?_
    refine c_exit ?_
    refine q_pass_exit ?_
    refine q_pass_exit ?_
    refine q_hit ?_
    exact q_mid (out, a8, c8, yse, ie, bde) (by exact ⟨hee, hT.sec hm2 dr64 hb64 hj (by first | exact .inl (by omega) | exact .inr (by simp_all))⟩) ⟨(by first | rfl | exact vint (by omega)), (by first | rfl | exact vint (by omega)), (by first | rfl | exact vint (by omega)), trivial⟩ (fun w S => S)
  · -- behind the cut
   rintro ⟨ws, a6, c6, ysW, iW, bdW⟩ ⟨heW, hSW⟩
   try dsimp only at *
   refine c_seq ?_
   refine c_seq ?_
   refine c_nilrow e_Op ?_
   refine c_conv (L' := stars ((([] : List Op).map Op.f_Value).map (vrow e8)) :: _) (fun w S => S.stars_nil) ?_
   refine c_region ?_
   refine o_move rfl rfl ?_
   refine l_f2 ?_
   refine o_call rfl cal37 rfl (few9_x hs heW hsm hcc) ?_
   rintro _ _ ⟨ys87, i87, bd87, he87, dr87, hb87, rfl, rfl⟩
   obtain ⟨m3, hm3⟩ : ∃ m : Nat, (m : Int) = fewR ysW := ⟨(fewR ysW).toNat, by have := fewR_0 ysW; omega⟩
   have hm3l : m3 ≤ 1000 := by have := fewR_le ysW; omega
   refine l_eq (t := 87) (v' := .int .i64 (m3 : Int)) rfl (by exact congrArg (Value.int .i64) hm3.symm) ?_
   refine o_assign rfl rfl ?_
   refine l_nil ?_
   refine q_then ?_
   refine c_mid (α := (List Op) × (Option Addr) × Nat × (List UInt8) × Nat × Bool) (fun z => [(0, .pointer (some ⟨k, 0, none⟩)), (2, .pointer (some ⟨b2, 0, none⟩)), (3, .pointer (some ⟨b3, 0, none⟩))]) (fun z => blk k (.cells #[.slice a (xs).length c, .int .i64 (z.2.2.2.2.1 : Int), .bool z.2.2.2.2.2] 83 (0, 0)) :: stars ((z.1.map Op.f_Value).map (vrow e8)) :: row e_Op.T e_Op.sz z.2.1 (z.1).length z.2.2.1 (flat e_Op z.1) :: row e_S.T e_S.sz a6 (ws).length c6 (flat e_S ws) :: row e_S.T e_S.sz a5 (rs).length c5 (flat e_S rs) :: blk b3 (.cells #[.int .i64 (fewR ys0), .int .u64 ((numR 0 0 ys14).1 : Int), .int .u64 ((numR 0 0 ys19).1 : Int), .int .i64 (fewR ys24), .int .i64 (fewR ys29), .slice a5 (rs).length c5, .slice a6 (ws).length c6, .slice z.2.1 (z.1).length z.2.2.1, .int .i64 (fewR ys33), .slice none 0 0] 33 (0, 0)) :: blk b2 (.cells #[.int .i64 0, .int .u64 0, .int .u64 0, .int .i64 0, .int .i64 0, .slice none 0 0, .slice none 0 0, .slice none 0 0, .int .i64 0, .slice none 0 0] 33 (0, 0)) :: F) (fun z => E9 xs z.2.2.2.2.1 z.2.2.2.1 ∧ SecO ysW bdW z.1 z.2.2.2.2.2 z.2.2.2.1 ∧ ∀ x ∈ z.1, x.f_Value.xs.length ≤ 70000000000000) ?_ ?_
   · -- cut
    refine c_block ?_
    refine c_loop (α := Nat × (List Op) × (Option Addr) × Nat × (List UInt8) × Nat × Bool) (fun z => [(0, .pointer (some ⟨k, 0, none⟩)), (2, .pointer (some ⟨b2, 0, none⟩)), (3, .pointer (some ⟨b3, 0, none⟩)), (6, .int .i64 ((m3 : Int) - (z.1 : Int)))]) (fun z => blk k (.cells #[.slice a (xs).length c, .int .i64 (z.2.2.2.2.2.1 : Int), .bool z.2.2.2.2.2.2] 83 (0, 0)) :: stars ((z.2.1.map Op.f_Value).map (vrow e8)) :: row e_Op.T e_Op.sz z.2.2.1 (z.2.1).length z.2.2.2.1 (flat e_Op z.2.1) :: row e_S.T e_S.sz a6 (ws).length c6 (flat e_S ws) :: row e_S.T e_S.sz a5 (rs).length c5 (flat e_S rs) :: blk b3 (.cells #[.int .i64 (fewR ys0), .int .u64 ((numR 0 0 ys14).1 : Int), .int .u64 ((numR 0 0 ys19).1 : Int), .int .i64 (fewR ys24), .int .i64 (fewR ys29), .slice a5 (rs).length c5, .slice a6 (ws).length c6, .slice z.2.2.1 (z.2.1).length z.2.2.2.1, .int .i64 (fewR ys33), .slice none 0 0] 33 (0, 0)) :: blk b2 (.cells #[.int .i64 0, .int .u64 0, .int .u64 0, .int .i64 0, .int .i64 0, .slice none 0 0, .slice none 0 0, .slice none 0 0, .int .i64 0, .slice none 0 0] 33 (0, 0)) :: F) (fun z => z.1 ≤ m3 ∧ E9 xs z.2.2.2.2.2.1 z.2.2.2.2.1 ∧ Op9 ys87 m3 z.1 z.2.1 bd87 z.2.2.2.2.2.2 z.2.2.2.2.1 ∧ ∀ x ∈ z.2.1, x.f_Value.xs.length ≤ 70000000000000) (fun z => m3 - z.1) (0, [], none, 0, ys87, i87, bd87) (by exact ⟨Nat.zero_le _, he87, Op9.start _ _ _, fun x hx => by cases hx⟩) ⟨(by first | rfl | exact vint (by omega)), (by first | rfl | exact vint (by omega)), (by first | rfl | exact vint (by omega)), (by first | rfl | exact vint (by omega)), trivial⟩ (fun w S => S) ?_
    rintro ⟨j, os, a7, c7, yse, ie, bde⟩ ⟨hj, hee, hO, hvl⟩
    try dsimp only at *
    have hol := hO.len
    refine c_seq ?_
    refine c_seq ?_
    refine c_region ?_
    refine o_move rfl rfl ?_
    refine o_bin rfl rfl rfl b_gtr ?_
    refine o_move rfl rfl ?_
    refine l_split (t := 90) rfl (fun h5 => ?_) (fun h5 => ?_)
    · -- h5T
     have h5b := h5
     try simp only [decide_eq_true_eq] at h5
     refine o_yes rfl rfl rfl ?_
     refine o_move rfl rfl ?_
     refine o_yes rfl rfl rfl ?_
     refine o_nil rfl rfl ?_
     refine o_yes rfl rfl rfl ?_
     refine o_fieldAddr (q := ⟨k, 2, none⟩) rfl rfl Tryz.underlying83 rfl ti4 rfl ?_
     refine o_yes rfl rfl rfl ?_
     refine o_load1 rfl rfl Tryz.underlying4 rfl (rd_mem 0 rfl rfl) ?_
     refine o_yes rfl rfl rfl ?_
     refine o_not rfl rfl ?_
     refine o_pick_true rfl rfl rfl ?_
     refine l_nil ?_
     refine q_then ?_
     refine c_cond rfl (fun h6 => ?_) (fun h6 => ?_)
     · -- h6T
      have h6b := h6
      try simp only [decide_eq_true_eq, decide_eq_false_iff_not, Bool.not_eq_eq_eq_not, Bool.not_true, Bool.not_false, Bool.not_eq_true', Bool.not_eq_false', Int.not_lt, Int.not_le, Bool.or_eq_true, Bool.and_eq_true] at h6
      refine c_skip ?_
      refine q_then ?_
      refine c_seq ?_
      refine c_block ?_
      refine c_seq ?_
      refine c_region ?_
      refine o_move rfl rfl ?_
      refine o_call rfl cal37 rfl (few9_x hs hee hsm hcc) ?_
      rintro _ _ ⟨ys100, i100, bd100, he100, dr100, hb100, rfl, rfl⟩
      refine o_build rfl sp92 ti92 rfl ((fill_cons (cells' := [.int .i64 (fewR yse), .string ByteArray.empty, .slice none 0 0, .int .i64 0]) rfl rfl rfl rfl fill_nil)) ?_
      refine o_alloc rfl ti92 fun b7 => ?_
      refine o_storen rfl rfl ti92 rfl rfl rfl rfl ?_
      refine l_nil ?_
      refine q_then ?_
      refine c_seq ?_
      refine c_region ?_
      refine o_move rfl rfl ?_
      refine l_f1 ?_
      refine o_call rfl cal57 rfl (text9_x hs he100 hsm hcc) ?_
      rintro _ _ ⟨out103, ys103, i103, bd103, a103, c103, hout103, he103, dr103, hb103, rfl, rfl⟩
      refine o_bytesStr (e := e8) rfl rfl rfl Tryz.underlying34 Tryz.underlying5 Tryz.underlying9 (rds_own e8_ok 0 rfl) ?_
      refine o_fieldAddr (q := ⟨b7, 1, none⟩) rfl rfl Tryz.underlying92 rfl ti9 rfl ?_
      refine l_f2 ?_
      refine o_store1 rfl rfl rfl ti9 rfl rfl ?_
      refine l_nil ?_
      refine q_then ?_
      refine c_seq ?_
      refine c_region ?_
      refine o_move rfl rfl ?_
      refine l_f2 ?_
      refine o_call rfl cal57 rfl (text9_x hs he103 hsm hcc) ?_
      rintro _ _ ⟨out107, ys107, i107, bd107, a107, c107, hout107, he107, dr107, hb107, rfl, rfl⟩
      refine o_fieldAddr (q := ⟨b7, 2, none⟩) rfl rfl Tryz.underlying92 rfl ti34 rfl ?_
      refine l_f2 ?_
      refine o_store1 rfl rfl rfl ti34 rfl rfl ?_
      refine l_nil ?_
      refine q_then ?_
      refine c_seq ?_
      refine c_region ?_
      refine o_move rfl rfl ?_
      refine l_f2 ?_
      refine o_call rfl cal56 rfl (n9_x hs he107 hsm hcc) ?_
      rintro _ _ ⟨ys110, i110, bd110, he110, dr110, hb110, rfl, rfl⟩
      have hz110 := num_0 ys107
      refine o_assign rfl rfl ?_
      refine l_nil ?_
      refine q_then ?_
      refine c_seq ?_
      refine c_region ?_
      refine o_move rfl rfl ?_
      refine o_bin rfl rfl rfl (b_quo (by omega) (show IntKind.u64.wrap (Int.tdiv ((numR 0 0 ys107).1 : Int) 2) = (((numR 0 0 ys107).1 / 2 : Nat) : Int) from by have hz := num_0 ys107; rw [show Int.tdiv ((numR 0 0 ys107).1 : Int) 2 = (((numR 0 0 ys107).1 / 2 : Nat) : Int) from rfl]; exact wrap_u64 (by omega) (by omega))) ?_
      refine o_int rfl rfl Tryz.underlying22 Tryz.underlying2 (wrap_i64 (by omega) (by omega)) ?_
      refine o_fieldAddr (q := ⟨b7, 3, none⟩) rfl rfl Tryz.underlying92 rfl ti2 rfl ?_
      refine l_f1 ?_
      refine o_store1 rfl rfl rfl ti2 rfl rfl ?_
      refine l_nil ?_
      refine q_then ?_
      refine c_seq ?_
      refine c_seq ?_
      refine c_region ?_
      refine o_move rfl rfl ?_
      refine o_bin rfl rfl rfl (b_rem (by omega) (show Int.tmod ((numR 0 0 ys107).1 : Int) 2 = (((numR 0 0 ys107).1 % 2 : Nat) : Int) from rfl)) ?_
      refine o_bin rfl rfl rfl b_eql ?_
      refine l_nil ?_
      refine q_then ?_
      refine c_cond rfl (fun h7 => ?_) (fun h7 => ?_)
      · -- h7T
       have h7b := h7
       try simp only [decide_eq_true_eq] at h7
       refine c_region ?_
       refine o_fieldAddr (q := ⟨b7, 3, none⟩) rfl rfl Tryz.underlying92 rfl ti2 rfl ?_
       refine o_load1 rfl rfl Tryz.underlying2 rfl (rd_mem 0 rfl rfl) ?_
       refine o_bin rfl rfl rfl (b_sub (wrap_i64 (by omega) (by omega))) ?_
       refine o_fieldAddr (q := ⟨b7, 3, none⟩) rfl rfl Tryz.underlying92 rfl ti2 rfl ?_
       refine o_store1 rfl rfl rfl ti2 rfl rfl ?_
       refine l_nil ?_
       refine q_then ?_
       have hun : -1 - (((numR 0 0 ys107).1 / 2 : Nat) : Int) = unzig ((numR 0 0 ys107).1 : Int) := by unfold unzig; first | rw [if_pos (by omega)]; omega | rw [if_neg (by omega)]; omega
       refine c_conv (L' := blk b7 (.cells #[.int .i64 (fewR yse), .string (bts out103), .slice a107 (out107).length c107, .int .i64 (unzig ((numR 0 0 ys107).1 : Int))] 92 (0, 0)) :: _) (fun w S => by rw [hun] at S; exact S) ?_
       refine c_region ?_
       refine o_fieldAddr (q := ⟨b3, 4, none⟩) rfl rfl Tryz.underlying33 rfl ti30 rfl ?_
       refine o_fieldAddr (q := ⟨b3, 7, none⟩) rfl rfl Tryz.underlying30 rfl ti28 rfl ?_
       refine o_load1 rfl rfl Tryz.underlying28 rfl (rd_mem 8 rfl rfl) ?_
       refine o_loadn (vs := [_, _, _, _]) rfl rfl Tryz.underlying92 rfl ti92 (rdn_lit 0 rfl rfl) ?_
       refine o_lit e_Op_ok rfl Tryz.underlying28 rfl rfl rfl (lit_ok rfl) [(⟨fewR yse, bts out103, ⟨a107, out107, c107⟩, unzig ((numR 0 0 ys107).1 : Int)⟩ : Op)] rfl rfl fun a126 => ?_
       refine l_f6 ?_
       refine o_append e_Op_ok rfl rfl rfl Tryz.underlying28 (rds_own e_Op_ok 1 rfl) (by show (_ + _) * _ ≤ _; simp only [List.length_cons, List.length_nil]; omega) (by simp only [List.length_cons, List.length_nil]; omega) fun a127 c127 => ?_
       refine l_f1 ?_
       refine l_drop ?_
       refine o_fieldAddr (q := ⟨b3, 4, none⟩) rfl rfl Tryz.underlying33 rfl ti30 rfl ?_
       refine o_fieldAddr (q := ⟨b3, 7, none⟩) rfl rfl Tryz.underlying30 rfl ti28 rfl ?_
       refine l_f8 ?_
       refine o_store1 rfl rfl rfl ti28 rfl rfl ?_
       refine l_nil ?_
       refine q_block ?_
       refine q_then ?_
       refine c_region ?_
       refine o_move rfl rfl ?_
       refine o_bin rfl rfl rfl (b_sub (wrap_i64 (by omega) (by omega))) ?_
       refine o_assign rfl rfl ?_
       refine l_nil ?_
       refine q_conv (fun w S => S.perm p9) ?_
       refine q_conv (fun w S => S.perm p9) ?_
       refine q_conv (fun w S => S.perm p9) ?_
       refine q_conv (fun w S => S.perm p8) ?_
       refine q_conv (fun w S => S.perm p7) ?_
       refine q_conv (fun w S => S.perm p7) ?_
       refine q_conv (fun w S => S.perm p7) ?_
       refine q_conv (fun w S => S.perm p7) ?_
       refine q_conv (fun w S => S.perm p9) ?_
       refine q_conv (fun w S => S.perm p9) ?_
       refine q_conv (L' := stars (((os ++ [(⟨fewR yse, bts out103, ⟨a107, out107, c107⟩, unzig ((numR 0 0 ys107).1 : Int)⟩ : Op)]).map Op.f_Value).map (vrow e8)) :: _) (fun w S => vals_snoc (y := (⟨fewR yse, bts out103, ⟨a107, out107, c107⟩, unzig ((numR 0 0 ys107).1 : Int)⟩ : Op)) S) ?_
       refine q_conv (fun w S => (S.perm p3).tail) ?_
       refine q_conv (fun w S => (S.perm p4).tail) ?_
       refine q_conv (fun w S => S.perm p6) ?_
       refine q_conv (fun w S => S.perm p2) ?_
       refine q_conv (fun w S => S.perm p6) ?_
       refine q_conv (fun w S => S.perm p6) ?_
       refine q_conv (fun w S => S.perm p5) ?_
       refine q_conv (fun w S => S.perm p5) ?_
       refine q_conv (fun w S => S.perm p6) ?_
       exact q_round (j + 1, os ++ [(⟨fewR yse, bts out103, ⟨a107, out107, c107⟩, unzig ((numR 0 0 ys107).1 : Int)⟩ : Op)], a127, c127, ys110, i110, bd110) (by exact ⟨by omega, he110, by have h9 := hO.on (a := a107) (c := c107) (by omega) dr100 dr103 dr107 dr110 hb100 hb103 hb107 hb110; rw [← hout103, ← hout107] at h9; exact h9, fun x hx => (List.mem_append.1 hx).elim (hvl x) fun h9 => by rw [List.mem_singleton.1 h9]; show out107.length ≤ _; rw [hout107]; have h7 := textR_len ys103; have h8 := E9.le he103; omega⟩) (by (try dsimp only); omega) ⟨(by first | rfl | exact vint (by omega)), (by first | rfl | exact vint (by omega)), (by first | rfl | exact vint (by omega)), (by first | rfl | exact vint (by omega)), trivial⟩ (fun w S => S)
      · -- h7F
       have h7b := h7
       try simp only [decide_eq_false_iff_not, Int.not_lt, Int.not_le] at h7
       refine c_skip ?_
       refine q_then ?_
       have hun : (((numR 0 0 ys107).1 / 2 : Nat) : Int) = unzig ((numR 0 0 ys107).1 : Int) := by unfold unzig; first | rw [if_pos (by omega)]; omega | rw [if_neg (by omega)]; omega
       refine c_conv (L' := blk b7 (.cells #[.int .i64 (fewR yse), .string (bts out103), .slice a107 (out107).length c107, .int .i64 (unzig ((numR 0 0 ys107).1 : Int))] 92 (0, 0)) :: _) (fun w S => by rw [hun] at S; exact S) ?_
       refine c_region ?_
       refine o_fieldAddr (q := ⟨b3, 4, none⟩) rfl rfl Tryz.underlying33 rfl ti30 rfl ?_
       refine o_fieldAddr (q := ⟨b3, 7, none⟩) rfl rfl Tryz.underlying30 rfl ti28 rfl ?_
       refine o_load1 rfl rfl Tryz.underlying28 rfl (rd_mem 8 rfl rfl) ?_
       refine o_loadn (vs := [_, _, _, _]) rfl rfl Tryz.underlying92 rfl ti92 (rdn_lit 0 rfl rfl) ?_
       refine o_lit e_Op_ok rfl Tryz.underlying28 rfl rfl rfl (lit_ok rfl) [(⟨fewR yse, bts out103, ⟨a107, out107, c107⟩, unzig ((numR 0 0 ys107).1 : Int)⟩ : Op)] rfl rfl fun a126 => ?_
       refine l_f6 ?_
       refine o_append e_Op_ok rfl rfl rfl Tryz.underlying28 (rds_own e_Op_ok 1 rfl) (by show (_ + _) * _ ≤ _; simp only [List.length_cons, List.length_nil]; omega) (by simp only [List.length_cons, List.length_nil]; omega) fun a127 c127 => ?_
       refine l_f1 ?_
       refine l_drop ?_
       refine o_fieldAddr (q := ⟨b3, 4, none⟩) rfl rfl Tryz.underlying33 rfl ti30 rfl ?_
       refine o_fieldAddr (q := ⟨b3, 7, none⟩) rfl rfl Tryz.underlying30 rfl ti28 rfl ?_
       refine l_f8 ?_
       refine o_store1 rfl rfl rfl ti28 rfl rfl ?_
       refine l_nil ?_
       refine q_block ?_
       refine q_then ?_
       refine c_region ?_
       refine o_move rfl rfl ?_
       refine o_bin rfl rfl rfl (b_sub (wrap_i64 (by omega) (by omega))) ?_
       refine o_assign rfl rfl ?_
       refine l_nil ?_
       refine q_conv (fun w S => S.perm p9) ?_
       refine q_conv (fun w S => S.perm p9) ?_
       refine q_conv (fun w S => S.perm p9) ?_
       refine q_conv (fun w S => S.perm p8) ?_
       refine q_conv (fun w S => S.perm p7) ?_
       refine q_conv (fun w S => S.perm p7) ?_
       refine q_conv (fun w S => S.perm p7) ?_
       refine q_conv (fun w S => S.perm p7) ?_
       refine q_conv (fun w S => S.perm p9) ?_
       refine q_conv (fun w S => S.perm p9) ?_
       refine q_conv (L' := stars (((os ++ [(⟨fewR yse, bts out103, ⟨a107, out107, c107⟩, unzig ((numR 0 0 ys107).1 : Int)⟩ : Op)]).map Op.f_Value).map (vrow e8)) :: _) (fun w S => vals_snoc (y := (⟨fewR yse, bts out103, ⟨a107, out107, c107⟩, unzig ((numR 0 0 ys107).1 : Int)⟩ : Op)) S) ?_
       refine q_conv (fun w S => (S.perm p3).tail) ?_
       refine q_conv (fun w S => (S.perm p4).tail) ?_
       refine q_conv (fun w S => S.perm p6) ?_
       refine q_conv (fun w S => S.perm p2) ?_
       refine q_conv (fun w S => S.perm p6) ?_
       refine q_conv (fun w S => S.perm p6) ?_
       refine q_conv (fun w S => S.perm p5) ?_
       refine q_conv (fun w S => S.perm p5) ?_
       refine q_conv (fun w S => S.perm p6) ?_
       exact q_round (j + 1, os ++ [(⟨fewR yse, bts out103, ⟨a107, out107, c107⟩, unzig ((numR 0 0 ys107).1 : Int)⟩ : Op)], a127, c127, ys110, i110, bd110) (by exact ⟨by omega, he110, by have h9 := hO.on (a := a107) (c := c107) (by omega) dr100 dr103 dr107 dr110 hb100 hb103 hb107 hb110; rw [← hout103, ← hout107] at h9; exact h9, fun x hx => (List.mem_append.1 hx).elim (hvl x) fun h9 => by rw [List.mem_singleton.1 h9]; show out107.length ≤ _; rw [hout107]; have h7 := textR_len ys103; have h8 := E9.le he103; omega⟩) (by (try dsimp only); omega) ⟨(by first | rfl | exact vint (by omega)), (by first | rfl | exact vint (by omega)), (by first | rfl | exact vint (by omega)), (by first | rfl | exact vint (by omega)), trivial⟩ (fun w S => S)
     · -- h6F
      have h6b := h6
      try simp only [decide_eq_true_eq, decide_eq_false_iff_not, Bool.not_eq_eq_eq_not, Bool.not_true, Bool.not_false, Bool.not_eq_true', Bool.not_eq_false', Int.not_lt, Int.not_le, Bool.or_eq_true, Bool.and_eq_true] at h6
      refine c_exit ?_
      refine q_pass_exit ?_
      refine q_pass_exit ?_
      refine q_hit ?_
      exact q_mid (os, a7, c7, yse, ie, bde) (by exact ⟨hee, hO.sec hm3 dr87 hb87 hj (by first | exact .inl (by omega) | exact .inr (by simp_all)), hvl⟩) ⟨(by first | rfl | exact vint (by omega)), (by first | rfl | exact vint (by omega)), (by first | rfl | exact vint (by omega)), trivial⟩ (fun w S => S)
    · -- h5F
     have h5b := h5
     try simp only [decide_eq_false_iff_not, Int.not_lt, Int.not_le] at h5
     refine o_no rfl rfl rfl rfl ?_
     refine o_no rfl rfl rfl rfl ?_
     refine o_no rfl rfl rfl rfl ?_
     refine o_no rfl rfl rfl rfl ?_
     refine o_no rfl rfl rfl rfl ?_
     refine o_pick_false rfl rfl rfl ?_
     refine l_nil ?_
     refine q_then ?_
     refine c_false rfl ?_
     refine c_exit ?_
     refine q_pass_exit ?_
     refine q_pass_exit ?_
     refine q_hit ?_
     exact q_mid (os, a7, c7, yse, ie, bde) (by exact ⟨hee, hO.sec hm3 dr87 hb87 hj (by first | exact .inl (by omega) | exact .inr (by simp_all)), hvl⟩) ⟨(by first | rfl | exact vint (by omega)), (by first | rfl | exact vint (by omega)), (by first | rfl | exact vint (by omega)), trivial⟩ (fun w S => S)
   · -- behind the cut
    rintro ⟨os, a7, c7, ysO, iO, bdO⟩ ⟨heO, hSO, hvl⟩
    try dsimp only at *
    refine c_seq ?_
    have hlR := hSR.len
    have hlW := hSW.len
    have hlO := hSO.len
    have hwO := hSO.wf
    have hkl := keysT_len (⟨fewR ys29, ⟨a5, rs, c5⟩, ⟨a6, ws, c6⟩, ⟨a7, os, c7⟩, fewR ys33⟩ : Txn)
    have hkl2 : (keysT (⟨fewR ys29, ⟨a5, rs, c5⟩, ⟨a6, ws, c6⟩, ⟨a7, os, c7⟩, fewR ys33⟩ : Txn)).length ≤ 2000 := by have e : (keysT (⟨fewR ys29, ⟨a5, rs, c5⟩, ⟨a6, ws, c6⟩, ⟨a7, os, c7⟩, fewR ys33⟩ : Txn)).length ≤ rs.length + ws.length := hkl; omega
    refine c_region ?_
    refine o_fieldAddr (q := ⟨b3, 4, none⟩) rfl rfl Tryz.underlying33 rfl ti30 rfl ?_
    refine o_loadn (vs := [_, _, _, _, _]) rfl rfl Tryz.underlying30 rfl ti30 (rdn_lit 5 rfl rfl) ?_
    refine o_call rfl cal48 rfl (rkeys_ (t := (⟨fewR ys29, ⟨a5, rs, c5⟩, ⟨a6, ws, c6⟩, ⟨a7, os, c7⟩, fewR ys33⟩ : Txn)) (TxR.mk (t := (⟨fewR ys29, ⟨a5, rs, c5⟩, ⟨a6, ws, c6⟩, ⟨a7, os, c7⟩, fewR ys33⟩ : Txn)) (rds_own e_S_ok 4 rfl) (rds_own e_S_ok 3 rfl) (rds_own e_Op_ok 2 rfl) (vals_rv (os := os) 1 rfl) ⟨(by (try dsimp only); omega), (by (try dsimp only); omega), (by (try dsimp only); omega), fun x hx => by have := hvl x hx; omega⟩) (by (try dsimp only); omega)) ?_
    rintro _ _ ⟨a132, c132, rfl, rfl⟩
    refine o_assign rfl rfl ?_
    refine l_nil ?_
    refine q_then ?_
    refine c_seq ?_
    refine c_seq ?_
    refine c_nilrow e_Mark ?_
    refine c_region ?_
    refine o_assign rfl rfl ?_
    refine l_nil ?_
    refine q_then ?_
    refine c_block ?_
    refine c_loop (α := Nat × (List Mark) × (Option Addr) × Nat × (List UInt8) × Nat × Bool) (fun z => [(0, .pointer (some ⟨k, 0, none⟩)), (2, .pointer (some ⟨b2, 0, none⟩)), (3, .pointer (some ⟨b3, 0, none⟩)), (9, .slice a132 (keysT (⟨fewR ys29, ⟨a5, rs, c5⟩, ⟨a6, ws, c6⟩, ⟨a7, os, c7⟩, fewR ys33⟩ : Txn)).length c132), (10, .int .i64 (z.1 : Int))]) (fun z => row e_Mark.T e_Mark.sz z.2.2.1 (z.2.1).length z.2.2.2.1 (flat e_Mark z.2.1) :: row e_S.T e_S.sz a132 (keysT (⟨fewR ys29, ⟨a5, rs, c5⟩, ⟨a6, ws, c6⟩, ⟨a7, os, c7⟩, fewR ys33⟩ : Txn)).length c132 (flat e_S (keysT (⟨fewR ys29, ⟨a5, rs, c5⟩, ⟨a6, ws, c6⟩, ⟨a7, os, c7⟩, fewR ys33⟩ : Txn))) :: blk k (.cells #[.slice a (xs).length c, .int .i64 (z.2.2.2.2.2.1 : Int), .bool z.2.2.2.2.2.2] 83 (0, 0)) :: stars ((os.map Op.f_Value).map (vrow e8)) :: row e_Op.T e_Op.sz a7 (os).length c7 (flat e_Op os) :: row e_S.T e_S.sz a6 (ws).length c6 (flat e_S ws) :: row e_S.T e_S.sz a5 (rs).length c5 (flat e_S rs) :: blk b3 (.cells #[.int .i64 (fewR ys0), .int .u64 ((numR 0 0 ys14).1 : Int), .int .u64 ((numR 0 0 ys19).1 : Int), .int .i64 (fewR ys24), .int .i64 (fewR ys29), .slice a5 (rs).length c5, .slice a6 (ws).length c6, .slice a7 (os).length c7, .int .i64 (fewR ys33), .slice z.2.2.1 (z.2.1).length z.2.2.2.1] 33 (0, 0)) :: blk b2 (.cells #[.int .i64 0, .int .u64 0, .int .u64 0, .int .i64 0, .int .i64 0, .slice none 0 0, .slice none 0 0, .slice none 0 0, .int .i64 0, .slice none 0 0] 33 (0, 0)) :: F) (fun z => z.1 ≤ (keysT (⟨fewR ys29, ⟨a5, rs, c5⟩, ⟨a6, ws, c6⟩, ⟨a7, os, c7⟩, fewR ys33⟩ : Txn)).length ∧ E9 xs z.2.2.2.2.2.1 z.2.2.2.2.1 ∧ Mk9 ysO (keysT (⟨fewR ys29, ⟨a5, rs, c5⟩, ⟨a6, ws, c6⟩, ⟨a7, os, c7⟩, fewR ys33⟩ : Txn)) z.1 z.2.1 bdO z.2.2.2.2.2.2 z.2.2.2.2.1) (fun z => (keysT (⟨fewR ys29, ⟨a5, rs, c5⟩, ⟨a6, ws, c6⟩, ⟨a7, os, c7⟩, fewR ys33⟩ : Txn)).length - z.1) (0, [], none, 0, ysO, iO, bdO) (by exact ⟨Nat.zero_le _, heO, Mk9.start _ _ _⟩) ⟨(by first | rfl | exact vint (by omega)), (by first | rfl | exact vint (by omega)), (by first | rfl | exact vint (by omega)), (by first | rfl | exact vint (by omega)), (by first | rfl | exact vint (by omega)), trivial⟩ (fun w S => S) ?_
    rintro ⟨j, ms, a10, c10, yse, ie, bde⟩ ⟨hj, hee, hM⟩
    try dsimp only at *
    have hmL := hM.len
    refine c_seq ?_
    refine c_seq ?_
    refine c_region ?_
    refine o_move rfl rfl ?_
    refine o_move rfl rfl ?_
    refine o_len rfl rfl Tryz.underlying27 ?_
    refine o_bin rfl rfl rfl b_lss ?_
    refine o_move rfl rfl ?_
    refine l_split (t := 137) rfl (fun h8 => ?_) (fun h8 => ?_)
    · -- h8T
     have h8b := h8
     try simp only [decide_eq_true_eq] at h8
     refine o_yes rfl rfl rfl ?_
     refine o_move rfl rfl ?_
     refine o_yes rfl rfl rfl ?_
     refine o_nil rfl rfl ?_
     refine o_yes rfl rfl rfl ?_
     refine o_fieldAddr (q := ⟨k, 2, none⟩) rfl rfl Tryz.underlying83 rfl ti4 rfl ?_
     refine o_yes rfl rfl rfl ?_
     refine o_load1 rfl rfl Tryz.underlying4 rfl (rd_mem 2 rfl rfl) ?_
     refine o_yes rfl rfl rfl ?_
     refine o_not rfl rfl ?_
     refine o_pick_true rfl rfl rfl ?_
     refine l_nil ?_
     refine q_then ?_
     refine c_cond rfl (fun h9 => ?_) (fun h9 => ?_)
     · -- h9T
      have h9b := h9
      try simp only [decide_eq_true_eq, decide_eq_false_iff_not, Bool.not_eq_eq_eq_not, Bool.not_true, Bool.not_false, Bool.not_eq_true', Bool.not_eq_false', Int.not_lt, Int.not_le, Bool.or_eq_true, Bool.and_eq_true] at h9
      refine c_skip ?_
      refine q_then ?_
      refine c_seq ?_
      refine c_block ?_
      refine c_seq ?_
      refine c_mid (α := Nat × ByteArray × (List UInt8) × Nat × Bool) (fun z => [(0, .pointer (some ⟨k, 0, none⟩)), (2, .pointer (some ⟨b2, 0, none⟩)), (3, .pointer (some ⟨b3, 0, none⟩)), (9, .slice a132 (keysT (⟨fewR ys29, ⟨a5, rs, c5⟩, ⟨a6, ws, c6⟩, ⟨a7, os, c7⟩, fewR ys33⟩ : Txn)).length c132), (10, .int .i64 (j : Int)), (11, .pointer (some ⟨z.1, 0, none⟩)), (133, .int .i64 (j : Int)), (134, .slice a132 (keysT (⟨fewR ys29, ⟨a5, rs, c5⟩, ⟨a6, ws, c6⟩, ⟨a7, os, c7⟩, fewR ys33⟩ : Txn)).length c132), (135, .int .i64 ((keysT (⟨fewR ys29, ⟨a5, rs, c5⟩, ⟨a6, ws, c6⟩, ⟨a7, os, c7⟩, fewR ys33⟩ : Txn)).length : Int)), (136, .bool (decide ((j : Int) < ((keysT (⟨fewR ys29, ⟨a5, rs, c5⟩, ⟨a6, ws, c6⟩, ⟨a7, os, c7⟩, fewR ys33⟩ : Txn)).length : Int)))), (137, .bool true), (138, .pointer (some ⟨k, 0, none⟩)), (139, .pointer (some ⟨k, 0, none⟩)), (140, .pointer (some ⟨k, 2, none⟩)), (141, .bool bde), (142, .bool (!bde)), (143, .bool (!bde)), (146, .slice a132 (keysT (⟨fewR ys29, ⟨a5, rs, c5⟩, ⟨a6, ws, c6⟩, ⟨a7, os, c7⟩, fewR ys33⟩ : Txn)).length c132), (147, .int .i64 (j : Int)), (149, .string z.2.1), (150, .pointer (some ⟨k, 0, none⟩)), (151, .int .i64 (fewR yse)), (152, .agg #[.string z.2.1, .int .i64 (fewR yse), .int .u64 0])]) (fun z => blk z.1 (.cells #[.string z.2.1, .int .i64 (fewR yse), .int .u64 0] 60 (0, 0)) :: blk k (.cells #[.slice a (xs).length c, .int .i64 (z.2.2.2.1 : Int), .bool z.2.2.2.2] 83 (0, 0)) :: row e_Mark.T e_Mark.sz a10 (ms).length c10 (flat e_Mark ms) :: row e_S.T e_S.sz a132 (keysT (⟨fewR ys29, ⟨a5, rs, c5⟩, ⟨a6, ws, c6⟩, ⟨a7, os, c7⟩, fewR ys33⟩ : Txn)).length c132 (flat e_S (keysT (⟨fewR ys29, ⟨a5, rs, c5⟩, ⟨a6, ws, c6⟩, ⟨a7, os, c7⟩, fewR ys33⟩ : Txn))) :: stars ((os.map Op.f_Value).map (vrow e8)) :: row e_Op.T e_Op.sz a7 (os).length c7 (flat e_Op os) :: row e_S.T e_S.sz a6 (ws).length c6 (flat e_S ws) :: row e_S.T e_S.sz a5 (rs).length c5 (flat e_S rs) :: blk b3 (.cells #[.int .i64 (fewR ys0), .int .u64 ((numR 0 0 ys14).1 : Int), .int .u64 ((numR 0 0 ys19).1 : Int), .int .i64 (fewR ys24), .int .i64 (fewR ys29), .slice a5 (rs).length c5, .slice a6 (ws).length c6, .slice a7 (os).length c7, .int .i64 (fewR ys33), .slice a10 (ms).length c10] 33 (0, 0)) :: blk b2 (.cells #[.int .i64 0, .int .u64 0, .int .u64 0, .int .i64 0, .int .i64 0, .slice none 0 0, .slice none 0 0, .slice none 0 0, .int .i64 0, .slice none 0 0] 33 (0, 0)) :: F) (fun z => E9 xs z.2.2.2.1 z.2.2.1 ∧ z.2.2.1 = yse.drop (numR 0 0 yse).2.2 ∧ z.2.2.2.2 = fewB bde yse ∧ (keysT (⟨fewR ys29, ⟨a5, rs, c5⟩, ⟨a6, ws, c6⟩, ⟨a7, os, c7⟩, fewR ys33⟩ : Txn))[((j : Int)).toNat]? = some z.2.1) ?_ ?_
      · -- cut
       refine c_fact (p := ∃ ad, a132 = some ad) (rds_some (e := e_S) (xs := keysT (⟨fewR ys29, ⟨a5, rs, c5⟩, ⟨a6, ws, c6⟩, ⟨a7, os, c7⟩, fewR ys33⟩ : Txn)) (rds_own e_S_ok 1 rfl) (by intro h0; have h00 := congrArg List.length h0; simp only [List.length_nil] at h00; omega)) ?_
       rintro ⟨adk, eadk⟩
       refine c_conv (fun w S => S.perm p2) ?_
       refine c_conv (fun w S => S.perm p8) ?_
       refine c_conv (fun w S => S.perm p8) ?_
       refine c_conv (fun w S => S.perm p8) ?_
       refine c_conv (fun w S => S.perm p8) ?_
       refine c_conv (fun w S => S.perm p8) ?_
       refine c_conv (fun w S => S.perm p8) ?_
       refine c_conv (fun w S => S.perm p8) ?_
       refine c_conv (fun w S => S.perm p8) ?_
       refine c_held [row e_Mark.T e_Mark.sz a10 (ms).length c10 (flat e_Mark ms), row e_S.T e_S.sz a132 (keysT (⟨fewR ys29, ⟨a5, rs, c5⟩, ⟨a6, ws, c6⟩, ⟨a7, os, c7⟩, fewR ys33⟩ : Txn)).length c132 (flat e_S (keysT (⟨fewR ys29, ⟨a5, rs, c5⟩, ⟨a6, ws, c6⟩, ⟨a7, os, c7⟩, fewR ys33⟩ : Txn))), stars ((os.map Op.f_Value).map (vrow e8)), row e_Op.T e_Op.sz a7 (os).length c7 (flat e_Op os), row e_S.T e_S.sz a6 (ws).length c6 (flat e_S ws), row e_S.T e_S.sz a5 (rs).length c5 (flat e_S rs), blk b3 (.cells #[.int .i64 (fewR ys0), .int .u64 ((numR 0 0 ys14).1 : Int), .int .u64 ((numR 0 0 ys19).1 : Int), .int .i64 (fewR ys24), .int .i64 (fewR ys29), .slice a5 (rs).length c5, .slice a6 (ws).length c6, .slice a7 (os).length c7, .int .i64 (fewR ys33), .slice a10 (ms).length c10] 33 (0, 0)), blk b2 (.cells #[.int .i64 0, .int .u64 0, .int .u64 0, .int .i64 0, .int .i64 0, .slice none 0 0, .slice none 0 0, .slice none 0 0, .int .i64 0, .slice none 0 0] 33 (0, 0))] (by kernel_rfl) rfl ?_
       refine h_take 0 rfl rfl (by kernel_rfl) (by kernel_rfl) (by kernel_rfl) (fun L0 => v_move rfl rfl) ?_
       refine h_take 1 rfl rfl (by kernel_rfl) (by kernel_rfl) (by kernel_rfl) (fun L0 => v_move rfl rfl) ?_
       refine h_take 2 rfl rfl (by kernel_rfl) (by kernel_rfl) (by kernel_rfl) (fun L0 => v_indexK e_S_ok eadk rfl rfl rfl Tryz.underlying27 (by omega) (by omega)) ?_
       obtain ⟨x148, hx148⟩ : ∃ x, (keysT (⟨fewR ys29, ⟨a5, rs, c5⟩, ⟨a6, ws, c6⟩, ⟨a7, os, c7⟩, fewR ys33⟩ : Txn))[((j : Int)).toNat]? = some x := ⟨_, List.getElem?_eq_getElem (by omega)⟩
       refine h_take 3 rfl rfl (by kernel_rfl) (by kernel_rfl) (by kernel_rfl) (fun L0 => v_load1 rfl rfl Tryz.underlying9 rfl (rd_sl0 e_S_ok eadk (rds_own e_S_ok 1 rfl) hx148 rfl)) ?_
       refine h_take 4 rfl rfl (by kernel_rfl) (by kernel_rfl) (by kernel_rfl) (fun L0 => v_move rfl rfl) ?_
       refine h_many (is := [5, 7]) (by kernel_rfl) (by decide) (forall_cons ⟨_, rfl, ?_⟩ (forall_cons ⟨_, rfl, ?_⟩ forall_nil))
       · -- 5 comes first
        refine l_f8 ?_
        refine o_call rfl cal37 rfl (few9_x hs hee hsm hcc) ?_
        rintro _ _ ⟨ys151, i151, bd151, he151, dr151, hb151, rfl, rfl⟩
        refine l_nil ?_
        refine q_conv (fun w S => S.perm p8) ?_
        refine q_conv (fun w S => S.perm p8) ?_
        refine q_conv (fun w S => S.perm p8) ?_
        refine q_conv (fun w S => S.perm p8) ?_
        refine q_conv (fun w S => S.perm p8) ?_
        refine q_conv (fun w S => S.perm p8) ?_
        refine q_conv (fun w S => S.perm p8) ?_
        refine q_conv (fun w S => S.perm p8) ?_
        refine h_next ?_
        refine h_take 6 rfl rfl (by kernel_rfl) (by kernel_rfl) (by kernel_rfl) (fun L0 => v_build rfl sp60 ti60 rfl ((fill_cons (cells' := [.string x148, .int .i64 0, .int .u64 0]) rfl rfl rfl rfl (fill_cons (cells' := [.string x148, .int .i64 (fewR yse), .int .u64 0]) rfl rfl rfl rfl fill_nil)))) ?_
        refine h_one 7 rfl (by kernel_rfl) ?_
        refine o_alloc rfl ti60 fun b11 => ?_
        refine l_nil ?_
        refine q_conv (fun w S => S.perm p9) ?_
        refine q_conv (fun w S => S.perm p1) ?_
        refine q_conv (fun w S => S.perm p9) ?_
        refine q_conv (fun w S => S.perm p9) ?_
        refine q_conv (fun w S => S.perm p9) ?_
        refine q_conv (fun w S => S.perm p9) ?_
        refine q_conv (fun w S => S.perm p9) ?_
        refine q_conv (fun w S => S.perm p9) ?_
        refine q_conv (fun w S => S.perm p9) ?_
        refine q_conv (fun w S => S.perm p9) ?_
        refine h_next ?_
        refine h_one 8 rfl (by kernel_rfl) ?_
        refine l_f8 ?_
        refine o_storen rfl rfl ti60 rfl rfl rfl rfl ?_
        refine l_nil ?_
        refine q_conv (fun w S => S.perm p9) ?_
        refine q_conv (fun w S => S.perm p1) ?_
        refine q_conv (fun w S => S.perm p9) ?_
        refine q_conv (fun w S => S.perm p9) ?_
        refine q_conv (fun w S => S.perm p9) ?_
        refine q_conv (fun w S => S.perm p9) ?_
        refine q_conv (fun w S => S.perm p9) ?_
        refine q_conv (fun w S => S.perm p9) ?_
        refine q_conv (fun w S => S.perm p9) ?_
        refine q_conv (fun w S => S.perm p9) ?_
        refine h_next ?_
        refine h_done (by kernel_rfl) ?_
        refine q_conv (fun w S => S.perm p7) ?_
        refine q_conv (fun w S => S.perm p7) ?_
        refine q_conv (fun w S => S.perm p7) ?_
        refine q_conv (fun w S => S.perm p7) ?_
        refine q_conv (fun w S => S.perm p7) ?_
        refine q_conv (fun w S => S.perm p7) ?_
        refine q_conv (fun w S => S.perm p7) ?_
        refine q_conv (fun w S => S.perm p7) ?_
        refine q_conv (fun w S => S.perm p9) ?_
        refine q_conv (fun w S => S.perm p9) ?_
        exact q_mid (b11, x148, ys151, i151, bd151) (by exact ⟨he151, dr151, hb151, hx148⟩) ⟨(by first | rfl | exact vint (by omega)), (by first | rfl | exact vint (by omega)), (by first | rfl | exact vint (by omega)), (by first | rfl | exact vint (by omega)), (by first | rfl | exact vint (by omega)), (by first | rfl | exact vint (by omega)), (by first | rfl | exact vint (by omega)), (by first | rfl | exact vint (by omega)), (by first | rfl | exact vint (by omega)), (by first | rfl | exact vint (by omega)), (by first | rfl | exact vint (by omega)), (by first | rfl | exact vint (by omega)), (by first | rfl | exact vint (by omega)), (by first | rfl | exact vint (by omega)), (by first | rfl | exact vint (by omega)), (by first | rfl | exact vint (by omega)), (by first | rfl | exact vint (by omega)), (by first | rfl | exact vint (by omega)), (by first | rfl | exact vint (by omega)), (by first | rfl | exact vint (by omega)), (by first | rfl | exact vint (by omega)), (by first | rfl | exact vint (by omega)), (by first | rfl | exact vint (by omega)), trivial⟩ (fun w S => S)
       · -- 7 comes first
        refine o_alloc rfl ti60 fun b11 => ?_
        refine l_nil ?_
        refine q_conv (fun w S => S.perm p9) ?_
        refine q_conv (fun w S => S.perm p1) ?_
        refine q_conv (fun w S => S.perm p9) ?_
        refine q_conv (fun w S => S.perm p9) ?_
        refine q_conv (fun w S => S.perm p9) ?_
        refine q_conv (fun w S => S.perm p9) ?_
        refine q_conv (fun w S => S.perm p9) ?_
        refine q_conv (fun w S => S.perm p9) ?_
        refine q_conv (fun w S => S.perm p9) ?_
        refine q_conv (fun w S => S.perm p9) ?_
        refine h_next ?_
        refine h_one 5 rfl (by kernel_rfl) ?_
        refine l_f9 ?_
        refine o_call rfl cal37 rfl (few9_x hs hee hsm hcc) ?_
        rintro _ _ ⟨ys151, i151, bd151, he151, dr151, hb151, rfl, rfl⟩
        refine l_nil ?_
        refine q_conv (fun w S => S.perm p9) ?_
        refine q_conv (fun w S => S.perm p1) ?_
        refine q_conv (fun w S => S.perm p9) ?_
        refine q_conv (fun w S => S.perm p9) ?_
        refine q_conv (fun w S => S.perm p9) ?_
        refine q_conv (fun w S => S.perm p9) ?_
        refine q_conv (fun w S => S.perm p9) ?_
        refine q_conv (fun w S => S.perm p9) ?_
        refine q_conv (fun w S => S.perm p9) ?_
        refine q_conv (fun w S => S.perm p9) ?_
        refine h_next ?_
        refine h_take 6 rfl rfl (by kernel_rfl) (by kernel_rfl) (by kernel_rfl) (fun L0 => v_build rfl sp60 ti60 rfl ((fill_cons (cells' := [.string x148, .int .i64 0, .int .u64 0]) rfl rfl rfl rfl (fill_cons (cells' := [.string x148, .int .i64 (fewR yse), .int .u64 0]) rfl rfl rfl rfl fill_nil)))) ?_
        refine h_one 8 rfl (by kernel_rfl) ?_
        refine l_f9 ?_
        refine o_storen rfl rfl ti60 rfl rfl rfl rfl ?_
        refine l_nil ?_
        refine q_conv (fun w S => S.perm p9) ?_
        refine q_conv (fun w S => S.perm p1) ?_
        refine q_conv (fun w S => S.perm p9) ?_
        refine q_conv (fun w S => S.perm p9) ?_
        refine q_conv (fun w S => S.perm p9) ?_
        refine q_conv (fun w S => S.perm p9) ?_
        refine q_conv (fun w S => S.perm p9) ?_
        refine q_conv (fun w S => S.perm p9) ?_
        refine q_conv (fun w S => S.perm p9) ?_
        refine q_conv (fun w S => S.perm p9) ?_
        refine h_next ?_
        refine h_done (by kernel_rfl) ?_
        refine q_conv (fun w S => S.perm p7) ?_
        refine q_conv (fun w S => S.perm p7) ?_
        refine q_conv (fun w S => S.perm p7) ?_
        refine q_conv (fun w S => S.perm p7) ?_
        refine q_conv (fun w S => S.perm p7) ?_
        refine q_conv (fun w S => S.perm p7) ?_
        refine q_conv (fun w S => S.perm p7) ?_
        refine q_conv (fun w S => S.perm p7) ?_
        refine q_conv (fun w S => S.perm p9) ?_
        refine q_conv (fun w S => S.perm p9) ?_
        exact q_mid (b11, x148, ys151, i151, bd151) (by exact ⟨he151, dr151, hb151, hx148⟩) ⟨(by first | rfl | exact vint (by omega)), (by first | rfl | exact vint (by omega)), (by first | rfl | exact vint (by omega)), (by first | rfl | exact vint (by omega)), (by first | rfl | exact vint (by omega)), (by first | rfl | exact vint (by omega)), (by first | rfl | exact vint (by omega)), (by first | rfl | exact vint (by omega)), (by first | rfl | exact vint (by omega)), (by first | rfl | exact vint (by omega)), (by first | rfl | exact vint (by omega)), (by first | rfl | exact vint (by omega)), (by first | rfl | exact vint (by omega)), (by first | rfl | exact vint (by omega)), (by first | rfl | exact vint (by omega)), (by first | rfl | exact vint (by omega)), (by first | rfl | exact vint (by omega)), (by first | rfl | exact vint (by omega)), (by first | rfl | exact vint (by omega)), (by first | rfl | exact vint (by omega)), (by first | rfl | exact vint (by omega)), (by first | rfl | exact vint (by omega)), (by first | rfl | exact vint (by omega)), trivial⟩ (fun w S => S)
      · -- behind the cut
       rintro ⟨b11, x148, ys151, i151, bd151⟩ ⟨he151, dr151, hb151, hx148⟩
       try dsimp only at *
       refine c_seq ?_
       refine c_region ?_
       refine o_move rfl rfl ?_
       refine l_f1 ?_
       refine o_call rfl cal56 rfl (n9_x hs he151 hsm hcc) ?_
       rintro _ _ ⟨ys154, i154, bd154, he154, dr154, hb154, rfl, rfl⟩
       refine o_fieldAddr (q := ⟨b11, 2, none⟩) rfl rfl Tryz.underlying60 rfl ti22 rfl ?_
       refine l_f1 ?_
       refine o_store1 rfl rfl rfl ti22 rfl rfl ?_
       refine l_nil ?_
       refine q_then ?_
       refine c_region ?_
       refine o_fieldAddr (q := ⟨b3, 9, none⟩) rfl rfl Tryz.underlying33 rfl ti31 rfl ?_
       refine o_load1 rfl rfl Tryz.underlying31 rfl (rd_mem 8 rfl rfl) ?_
       refine o_loadn (vs := [_, _, _]) rfl rfl Tryz.underlying60 rfl ti60 (rdn_lit 0 rfl rfl) ?_
       refine o_lit e_Mark_ok rfl Tryz.underlying31 rfl rfl rfl (lit_ok rfl) [(⟨x148, fewR yse, ((numR 0 0 ys151).1 : Int)⟩ : Mark)] rfl rfl fun a159 => ?_
       refine l_f3 ?_
       refine o_append e_Mark_ok rfl rfl rfl Tryz.underlying31 (rds_own e_Mark_ok 1 rfl) (by show (_ + _) * _ ≤ _; simp only [List.length_cons, List.length_nil]; omega) (by simp only [List.length_cons, List.length_nil]; omega) fun a160 c160 => ?_
       refine l_f1 ?_
       refine l_drop ?_
       refine o_fieldAddr (q := ⟨b3, 9, none⟩) rfl rfl Tryz.underlying33 rfl ti31 rfl ?_
       refine l_f8 ?_
       refine o_store1 rfl rfl rfl ti31 rfl rfl ?_
       refine l_nil ?_
       refine q_block ?_
       refine q_then ?_
       refine c_region ?_
       refine o_move rfl rfl ?_
       refine o_bin rfl rfl rfl (b_add (wrap_i64 (by omega) (by omega))) ?_
       refine o_assign rfl rfl ?_
       refine l_nil ?_
       refine q_conv (fun w S => (S.perm p2).tail) ?_
       refine q_conv (fun w S => S.perm p8) ?_
       refine q_conv (fun w S => S.perm p1) ?_
       refine q_conv (fun w S => S.perm p8) ?_
       refine q_conv (fun w S => S.perm p8) ?_
       refine q_conv (fun w S => S.perm p8) ?_
       refine q_conv (fun w S => S.perm p8) ?_
       refine q_conv (fun w S => S.perm p7) ?_
       refine q_conv (fun w S => S.perm p8) ?_
       refine q_conv (fun w S => S.perm p8) ?_
       exact q_round (j + 1, ms ++ [(⟨x148, fewR yse, ((numR 0 0 ys151).1 : Int)⟩ : Mark)], a160, c160, ys154, i154, bd154) (by exact ⟨by omega, he154, hM.on hx148 dr151 dr154 hb151 hb154⟩) (by (try dsimp only); omega) ⟨(by first | rfl | exact vint (by omega)), (by first | rfl | exact vint (by omega)), (by first | rfl | exact vint (by omega)), (by first | rfl | exact vint (by omega)), (by first | rfl | exact vint (by omega)), trivial⟩ (fun w S => S)
     · -- h9F
      have h9b := h9
      try simp only [decide_eq_true_eq, decide_eq_false_iff_not, Bool.not_eq_eq_eq_not, Bool.not_true, Bool.not_false, Bool.not_eq_true', Bool.not_eq_false', Int.not_lt, Int.not_le, Bool.or_eq_true, Bool.and_eq_true] at h9
      refine c_exit ?_
      refine q_pass_exit ?_
      refine q_pass_exit ?_
      refine q_hit ?_
      refine q_then ?_
      refine c_seq ?_
      have hml := hM.len
      have hRd : Rd9 ys0 bd0 (⟨fewR ys0, ((numR 0 0 ys14).1 : Int), ((numR 0 0 ys19).1 : Int), fewR ys24, fewR ys29, ⟨a5, rs, c5⟩, ⟨a6, ws, c6⟩, ⟨a7, os, c7⟩, fewR ys33, ⟨a10, ms, c10⟩⟩ : Order) bde yse := Rd9.mk' (hd9 dr14 dr19 dr24 dr29 dr33 dr37 hb14 hb19 hb24 hb29 hb33 hb37) hSR hSW hSO hM hj (by first | exact .inl (by have hq9 : (keysT (⟨fewR ys29, ⟨a5, rs, c5⟩, ⟨a6, ws, c6⟩, ⟨a7, os, c7⟩, fewR ys33⟩ : Txn)).length ≤ j := (by omega); exact hq9) | exact .inr (by first | assumption | simp_all))
      refine c_region ?_
      refine o_loadn (vs := [_, _, _, _, _, _, _, _, _, _]) rfl rfl Tryz.underlying33 rfl ti33 (rdn_lit 7 rfl rfl) ?_
      refine l_f8 ?_
      refine o_storen rfl rfl ti33 rfl rfl rfl rfl ?_
      refine l_nil ?_
      refine q_then ?_
      refine c_ret ?_
      refine f_retq (.inl rfl) (rs_1 rfl (rs_celln (vs := [.int .i64 (fewR ys0), .int .u64 ((numR 0 0 ys14).1 : Int), .int .u64 ((numR 0 0 ys19).1 : Int), .int .i64 (fewR ys24), .int .i64 (fewR ys29), .slice a5 (rs).length c5, .slice a6 (ws).length c6, .slice a7 (os).length c7, .int .i64 (fewR ys33), .slice a10 (ms).length c10]) rfl Tryz.underlying33 rfl ti33 (rdn_lit 0 rfl rfl))) (fun w S => ?_)
      replace S := S.tail
      replace S := (S.perm p1).tail
      replace S := (S.perm p6).tail
      replace S := S.perm p1
      replace S := S.perm p1
      replace S := S.perm p2
      replace S := S.perm p3
      replace S := S.perm p4
      replace S := S.perm p5
      exact ⟨_, ⟨(⟨fewR ys0, ((numR 0 0 ys14).1 : Int), ((numR 0 0 ys19).1 : Int), fewR ys24, fewR ys29, ⟨a5, rs, c5⟩, ⟨a6, ws, c6⟩, ⟨a7, os, c7⟩, fewR ys33, ⟨a10, ms, c10⟩⟩ : Order), yse, ie, bde, ⟨by have := num_0 ys14; exact ⟨by dsimp only; omega, by dsimp only; omega⟩, by have := num_0 ys19; exact ⟨by dsimp only; omega, by dsimp only; omega⟩, hM.wf, hwO⟩, ⟨by (try dsimp only); omega, ⟨by (try dsimp only); omega, by (try dsimp only); omega, by (try dsimp only); omega, fun x hx => by have := hvl x hx; omega⟩⟩, ⟨hSR.len, hSW.len, hSO.len, by (try dsimp only); omega⟩, hee, hRd, rfl, rfl⟩, (fun w S => Sat.unflat (Ls := [txM (⟨fewR ys0, ((numR 0 0 ys14).1 : Int), ((numR 0 0 ys19).1 : Int), fewR ys24, fewR ys29, ⟨a5, rs, c5⟩, ⟨a6, ws, c6⟩, ⟨a7, os, c7⟩, fewR ys33, ⟨a10, ms, c10⟩⟩ : Order).txn, vrow e_Mark (⟨fewR ys0, ((numR 0 0 ys14).1 : Int), ((numR 0 0 ys19).1 : Int), fewR ys24, fewR ys29, ⟨a5, rs, c5⟩, ⟨a6, ws, c6⟩, ⟨a7, os, c7⟩, fewR ys33, ⟨a10, ms, c10⟩⟩ : Order).f_Marks]) (Sat.unflat (Ls := txL (⟨fewR ys0, ((numR 0 0 ys14).1 : Int), ((numR 0 0 ys19).1 : Int), fewR ys24, fewR ys29, ⟨a5, rs, c5⟩, ⟨a6, ws, c6⟩, ⟨a7, os, c7⟩, fewR ys33, ⟨a10, ms, c10⟩⟩ : Order).txn) S)) w S⟩
    · -- h8F
     have h8b := h8
     try simp only [decide_eq_false_iff_not, Int.not_lt, Int.not_le] at h8
     refine o_no rfl rfl rfl rfl ?_
     refine o_no rfl rfl rfl rfl ?_
     refine o_no rfl rfl rfl rfl ?_
     refine o_no rfl rfl rfl rfl ?_
     refine o_no rfl rfl rfl rfl ?_
     refine o_pick_false rfl rfl rfl ?_
     refine l_nil ?_
     refine q_then ?_
     refine c_false rfl ?_
     refine c_exit ?_
     refine q_pass_exit ?_
     refine q_pass_exit ?_
     refine q_hit ?_
     refine q_then ?_
     refine c_seq ?_
     have hml := hM.len
     have hRd : Rd9 ys0 bd0 (⟨fewR ys0, ((numR 0 0 ys14).1 : Int), ((numR 0 0 ys19).1 : Int), fewR ys24, fewR ys29, ⟨a5, rs, c5⟩, ⟨a6, ws, c6⟩, ⟨a7, os, c7⟩, fewR ys33, ⟨a10, ms, c10⟩⟩ : Order) bde yse := Rd9.mk' (hd9 dr14 dr19 dr24 dr29 dr33 dr37 hb14 hb19 hb24 hb29 hb33 hb37) hSR hSW hSO hM hj (by first | exact .inl (by have hq9 : (keysT (⟨fewR ys29, ⟨a5, rs, c5⟩, ⟨a6, ws, c6⟩, ⟨a7, os, c7⟩, fewR ys33⟩ : Txn)).length ≤ j := (by omega); exact hq9) | exact .inr (by first | assumption | simp_all))
     refine c_region ?_
     refine o_loadn (vs := [_, _, _, _, _, _, _, _, _, _]) rfl rfl Tryz.underlying33 rfl ti33 (rdn_lit 7 rfl rfl) ?_
     refine l_f8 ?_
     refine o_storen rfl rfl ti33 rfl rfl rfl rfl ?_
     refine l_nil ?_
     refine q_then ?_
     refine c_ret ?_
     refine f_retq (.inl rfl) (rs_1 rfl (rs_celln (vs := [.int .i64 (fewR ys0), .int .u64 ((numR 0 0 ys14).1 : Int), .int .u64 ((numR 0 0 ys19).1 : Int), .int .i64 (fewR ys24), .int .i64 (fewR ys29), .slice a5 (rs).length c5, .slice a6 (ws).length c6, .slice a7 (os).length c7, .int .i64 (fewR ys33), .slice a10 (ms).length c10]) rfl Tryz.underlying33 rfl ti33 (rdn_lit 0 rfl rfl))) (fun w S => ?_)
     replace S := S.tail
     replace S := (S.perm p1).tail
     replace S := (S.perm p6).tail
     replace S := S.perm p1
     replace S := S.perm p1
     replace S := S.perm p2
     replace S := S.perm p3
     replace S := S.perm p4
     replace S := S.perm p5
     exact ⟨_, ⟨(⟨fewR ys0, ((numR 0 0 ys14).1 : Int), ((numR 0 0 ys19).1 : Int), fewR ys24, fewR ys29, ⟨a5, rs, c5⟩, ⟨a6, ws, c6⟩, ⟨a7, os, c7⟩, fewR ys33, ⟨a10, ms, c10⟩⟩ : Order), yse, ie, bde, ⟨by have := num_0 ys14; exact ⟨by dsimp only; omega, by dsimp only; omega⟩, by have := num_0 ys19; exact ⟨by dsimp only; omega, by dsimp only; omega⟩, hM.wf, hwO⟩, ⟨by (try dsimp only); omega, ⟨by (try dsimp only); omega, by (try dsimp only); omega, by (try dsimp only); omega, fun x hx => by have := hvl x hx; omega⟩⟩, ⟨hSR.len, hSW.len, hSO.len, by (try dsimp only); omega⟩, hee, hRd, rfl, rfl⟩, (fun w S => Sat.unflat (Ls := [txM (⟨fewR ys0, ((numR 0 0 ys14).1 : Int), ((numR 0 0 ys19).1 : Int), fewR ys24, fewR ys29, ⟨a5, rs, c5⟩, ⟨a6, ws, c6⟩, ⟨a7, os, c7⟩, fewR ys33, ⟨a10, ms, c10⟩⟩ : Order).txn, vrow e_Mark (⟨fewR ys0, ((numR 0 0 ys14).1 : Int), ((numR 0 0 ys19).1 : Int), fewR ys24, fewR ys29, ⟨a5, rs, c5⟩, ⟨a6, ws, c6⟩, ⟨a7, os, c7⟩, fewR ys33, ⟨a10, ms, c10⟩⟩ : Order).f_Marks]) (Sat.unflat (Ls := txL (⟨fewR ys0, ((numR 0 0 ys14).1 : Int), ((numR 0 0 ys19).1 : Int), fewR ys24, fewR ys29, ⟨a5, rs, c5⟩, ⟨a6, ws, c6⟩, ⟨a7, os, c7⟩, fewR ys33, ⟨a10, ms, c10⟩⟩ : Order).txn) S)) w S⟩
end
section
set_option linter.unusedVariables false
set_option linter.unusedSimpArgs false
set_option maxRecDepth 10000
open Go.RowKit Classical
abbrev zOrd : Order := ⟨0, 0, 0, 0, 0, ⟨none, [], 0⟩, ⟨none, [], 0⟩, ⟨none, [], 0⟩, 0, ⟨none, [], 0⟩⟩
theorem zOrd_mem {W w : World} {L : List Res} (S : Sat W w L) : Sat W w (ordM zOrd :: L) := by
  refine Sat.unflat (Ls := [txM zOrd.txn, vrow e_Mark zOrd.f_Marks]) ?_
  have S1 : Sat W w (vrow e_Mark ⟨none, [], 0⟩ :: L) := S.own_nil
  have S2 : Sat W w (stars [] :: vrow e_Mark ⟨none, [], 0⟩ :: L) := S1.stars_nil
  have S3 : Sat W w (vrow e_Op ⟨none, [], 0⟩ :: stars [] :: vrow e_Mark ⟨none, [], 0⟩ :: L) := S2.own_nil
  have S4 : Sat W w (vrow e_S ⟨none, [], 0⟩ :: vrow e_Op ⟨none, [], 0⟩ :: stars [] :: vrow e_Mark ⟨none, [], 0⟩ :: L) := S3.own_nil
  have S5 : Sat W w (vrow e_S ⟨none, [], 0⟩ :: vrow e_S ⟨none, [], 0⟩ :: vrow e_Op ⟨none, [], 0⟩ :: stars [] :: vrow e_Mark ⟨none, [], 0⟩ :: L) := S4.own_nil
  exact Sat.unflat (Ls := txL zOrd.txn) S5
theorem zOrd_len : OrdLen zOrd := ⟨by simp, ⟨by simp, by simp, by simp, fun o ho => by cases ho⟩⟩
theorem GoodO.same {a b : Order} {bs : List UInt8} (h : SameO a b) (w : OWf a) (g : GoodO b bs) : GoodO a bs := ⟨(ordOk_same h).2 g.ok, w, g.eq.trans (ordB_same h).symm⟩
theorem equal8 {W : World} {F : List Res} {xs ys : List UInt8} {a b : Option Addr} {c c2 : Nat} (hs : RdS W F e8 a xs) (hs2 : RdS W F e8 b ys) (hn : xs.length ≤ 9223372036854775807) : CS Tryz.prog 29 #[.slice a xs.length c, .slice b ys.length c2] W (F) (fun r L' => r = .bool (decide (xs = ys)) ∧ F = L') := by
 refine f_door (l0 := [(0, .slice a xs.length c), (1, .slice b ys.length c2)]) Tryz.func29 Tryz.ntmps29 rfl rfl rfl ?_
 refine c_seq ?_
 refine c_region ?_
 refine o_assign rfl rfl ?_
 refine l_nil ?_
 refine q_then ?_
 refine c_seq ?_
 refine c_seq ?_
 refine c_region ?_
 refine o_move rfl rfl ?_
 refine o_len rfl rfl Tryz.underlying34 ?_
 refine o_move rfl rfl ?_
 refine o_len rfl rfl Tryz.underlying34 ?_
 refine o_bin rfl rfl rfl b_neq ?_
 refine l_nil ?_
 refine q_then ?_
 refine c_cond rfl (fun h1 => ?_) (fun h1 => ?_)
 · -- h1T
  have h1b := h1
  try simp only [Bool.not_eq_true', decide_eq_false_iff_not, Int.not_lt, Int.not_le] at h1
  refine c_seq ?_
  refine c_region ?_
  refine o_assign rfl rfl ?_
  refine l_nil ?_
  refine q_then ?_
  refine c_ret ?_
  refine q_pass_ret ?_
  exact f_ret (r_one rfl rfl) (⟨vfalse' (fun h9 => h1 (by rw [h9])), rfl⟩) (fun w S => S)
 · -- h1F
  have h1b := h1
  try simp only [Bool.not_eq_false', decide_eq_true_eq] at h1
  refine c_skip ?_
  refine q_then ?_
  refine c_seq ?_
  refine c_seq ?_
  refine c_region ?_
  refine o_move rfl rfl ?_
  refine o_len rfl rfl Tryz.underlying34 ?_
  refine o_move rfl rfl ?_
  refine l_nil ?_
  refine q_then ?_
  refine c_block ?_
  refine c_loop (α := Nat) (fun z => [(0, .slice a (xs).length c), (1, .slice b (ys).length c2), (12, .int .i64 ((xs).length : Int)), (13, .int .i64 (z : Int))]) (fun z => F) (fun z => z ≤ xs.length ∧ ∀ j, j < z → xs[j]? = ys[j]?) (fun z => xs.length - z) (0) (by exact ⟨Nat.zero_le _, fun j h => absurd h (by omega)⟩) ⟨(by first | rfl | exact vint (by omega)), (by first | rfl | exact vint (by omega)), (by first | rfl | exact vint (by omega)), (by first | rfl | exact vint (by omega)), trivial⟩ (fun w S => S) ?_
  rintro i ⟨hi, heq⟩
  try dsimp only at *
  refine c_seq ?_
  refine c_region ?_
  refine o_bin rfl rfl rfl b_lss ?_
  refine l_nil ?_
  refine q_then ?_
  refine c_seq ?_
  refine c_cond rfl (fun h2 => ?_) (fun h2 => ?_)
  · -- h2T
   have h2b := h2
   try simp only [decide_eq_true_eq] at h2
   refine c_skip ?_
   refine q_then ?_
   refine c_seq ?_
   refine c_block ?_
   refine c_seq ?_
   refine c_region ?_
   refine o_move rfl rfl ?_
   refine o_assign rfl rfl ?_
   refine l_nil ?_
   refine q_then ?_
   refine c_seq ?_
   refine c_fact (p := ∃ ad, a = some ad) (rds_some (e := e8) (xs := xs) hs (by intro h0; have h00 := congrArg List.length h0; simp only [List.length_nil] at h00; omega)) ?_
   rintro ⟨adx, eadx⟩
   refine c_fact (p := ∃ ad, b = some ad) (rds_some (e := e8) (xs := ys) hs2 (by intro h0; have h00 := congrArg List.length h0; simp only [List.length_nil] at h00; omega)) ?_
   rintro ⟨ady, eady⟩
   refine c_quiet (by kernel_rfl) (by kernel_rfl) ?_
   refine Qt.o_val rfl (v_move rfl rfl) ?_
   refine Qt.o_val rfl (v_move rfl rfl) ?_
   refine Qt.o_val rfl (v_indexK e8_ok eadx rfl rfl rfl Tryz.underlying34 (by omega) (by omega)) ?_
   obtain ⟨x18, hx18⟩ : ∃ x, (xs)[((i : Int)).toNat]? = some x := ⟨_, List.getElem?_eq_getElem (by omega)⟩
   refine Qt.o_val rfl (v_load1 rfl rfl Tryz.underlying5 rfl (rd_sl0 e8_ok eadx hs hx18 rfl)) ?_
   refine Qt.o_val rfl (v_move rfl rfl) ?_
   refine Qt.o_val rfl (v_move rfl rfl) ?_
   refine Qt.o_val rfl (v_indexK e8_ok eady rfl rfl rfl Tryz.underlying34 (by omega) (by omega)) ?_
   obtain ⟨x22, hx22⟩ : ∃ x, (ys)[((i : Int)).toNat]? = some x := ⟨_, List.getElem?_eq_getElem (by omega)⟩
   have hxA : xs[i]? = some x18 := hx18
   have hxB : ys[i]? = some x22 := hx22
   refine Qt.o_val rfl (v_load1 rfl rfl Tryz.underlying5 rfl (rd_sl0 e8_ok eady hs2 hx22 rfl)) ?_
   refine Qt.o_val rfl (v_bin rfl rfl rfl b_neq) ?_
   refine Qt.l_nil ?_
   refine q_then ?_
   refine c_cond rfl (fun h3 => ?_) (fun h3 => ?_)
   · -- h3T
    have h3b := h3
    try simp only [Bool.not_eq_true', decide_eq_false_iff_not, Int.not_lt, Int.not_le] at h3
    refine c_seq ?_
    refine c_region ?_
    refine o_assign rfl rfl ?_
    refine l_nil ?_
    refine q_then ?_
    refine c_ret ?_
    refine q_block_ret ?_
    refine q_pass_ret ?_
    refine q_pass_ret ?_
    refine q_block_ret ?_
    refine q_pass_ret ?_
    exact f_ret (r_one rfl rfl) (⟨vfalse' (fun h9 => by rw [h9] at hxA; rw [hxA] at hxB; exact h3 (by rw [Option.some.inj hxB])), rfl⟩) (fun w S => S)
   · -- h3F
    have h3b := h3
    try simp only [Bool.not_eq_false', decide_eq_true_eq] at h3
    refine c_skip ?_
    refine q_block ?_
    refine q_then ?_
    refine c_region ?_
    refine o_bin rfl rfl rfl (b_add (wrap_i64 (by omega) (by omega))) ?_
    refine o_move rfl rfl ?_
    refine l_nil ?_
    exact q_round (i + 1) (by exact ⟨by omega, eqAt_on heq hx18 hx22 (UInt8.toNat_inj.1 (by omega))⟩) (by (try dsimp only); omega) ⟨(by first | rfl | exact vint (by omega)), (by first | rfl | exact vint (by omega)), (by first | rfl | exact vint (by omega)), (by first | rfl | exact vint (by omega)), trivial⟩ (fun w S => S)
  · -- h2F
   have h2b := h2
   try simp only [decide_eq_false_iff_not, Int.not_lt, Int.not_le] at h2
   refine c_exit ?_
   refine q_pass_exit ?_
   refine q_pass_exit ?_
   refine q_hit ?_
   refine q_then ?_
   refine c_seq ?_
   refine c_region ?_
   refine o_assign rfl rfl ?_
   refine l_nil ?_
   refine q_then ?_
   refine c_ret ?_
   exact f_ret (r_one rfl rfl) (⟨vtrue' (eqAt_all heq (by omega) (by omega)), rfl⟩) (fun w S => S)
end
end Go.Proofs.YtlblipkcbmcfkaaGreat
