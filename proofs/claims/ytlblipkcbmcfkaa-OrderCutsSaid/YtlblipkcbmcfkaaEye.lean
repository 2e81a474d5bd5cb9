/- Printed by eng.py out of 01/spec.py for 09a. -/
import Derived.Test.YtlblipkcbmcfkaaTyE
import Derived.Test.YtlblipkcbmcfkaaEyep
set_option linter.unusedVariables false
set_option linter.unusedSimpArgs false
set_option maxRecDepth 10000
namespace Go.Proofs.Ytlblipkcbmcfkaa
open Go.RowKit
/-- An eye's bytes 'ys': those of 'bs' from number i on. -/
structure EyeOk (W : World) (a : Option Addr) (bs : List UInt8) (i : Nat) (ys : List UInt8) (ay : Option Addr) (cy : Nat) : Prop where
  cut : ∀ {L : List Res}, RdS W L e8 a bs → RdS W L e8 ay ys
  is : ys = bs.drop i
  len : ys.length = bs.length - i
  le : i ≤ bs.length
  cap : ys.length ≤ cy
  small : bs.length ≤ 70000000000000
theorem eyeOk_start {W : World} {a : Option Addr} {bs : List UInt8} {c : Nat} (h : bs.length ≤ c) (hs : bs.length ≤ 70000000000000) : EyeOk W a bs 0 bs a c := ⟨fun h => h, rfl, rfl, Nat.zero_le _, h, hs⟩
theorem sub_all {α : Type} (ys : List α) (u : Nat) : sub ys u ys.length = ys.drop u := by simp [sub]
theorem EyeOk.on {W : World} {a ay : Option Addr} {bs ys : List UInt8} {i cy u : Nat} (h : EyeOk W a bs i ys ay cy) (hu : u ≤ ys.length) : EyeOk W a bs (i + u) (sub ys u ys.length) (cutA ay cy u 1) (cy - u) := by
  have h1 := h.len
  have h2 := h.le
  refine ⟨fun hr => rds_cut e8_ok (h.cut hr) u ys.length cy h.cap, ?_, ?_, by omega, ?_, h.small⟩
  · rw [sub_all, h.is, List.drop_drop]
  · rw [sub_len (Nat.le_refl _)]; omega
  · rw [sub_len (Nat.le_refl _)]; have := h.cap; omega
theorem newEye {W : World} {F : List Res} {xs : List UInt8} {a : Option Addr} {c : Nat} (hs : RdS W F e8 a xs) (hn : xs.length ≤ 70000000000000) : CS Try.prog 36 #[.slice a xs.length c] W (F) (fun r L' => ∃ (k : Nat) (a' : Option Addr) (c' : Nat), xs.length ≤ c' ∧ r = .pointer (some ⟨k, 0, none⟩) ∧ L' = blk k (.cells #[.slice a' xs.length c'] 98 (0, 0)) :: row e8.T e8.sz a' (xs).length c' (flat e8 xs) :: F) := by
 refine f_door (l0 := [(0, .slice a xs.length c)]) Try.func36 Try.ntmps36 rfl rfl rfl ?_
 refine c_seq ?_
 refine c_region ?_
 refine o_assign rfl rfl ?_
 refine l_nil ?_
 refine q_then ?_
 refine c_seq ?_
 refine c_region ?_
 refine o_move rfl rfl ?_
 refine o_call rfl cal56 rfl (clone8p hs hn) ?_
 rintro _ _ ⟨a4, c4, rfl, rfl⟩
 refine l_fact (row_cap 0 rfl) ?_
 intro hcl4
 refine o_build rfl sp98 ti98 rfl rfl ?_
 refine o_box rfl rfl fun b6 => ?_
 refine o_assign rfl rfl ?_
 refine l_nil ?_
 refine q_then ?_
 refine c_ret ?_
 exact f_ret (r_one rfl rfl) (⟨b6, a4, c4, hcl4, rfl, rfl⟩) (fun w S => S)

theorem eyeNum {W : World} {F : List Res} {k i : Nat} {bs ys : List UInt8} {a ay : Option Addr} {c cy : Nat} (ok : EyeOk W a bs i ys ay cy) : CS Try.prog 83 #[.pointer (some ⟨k, 0, none⟩)] W (blk k (.cells #[.slice ay (ys).length cy] 98 (0, 0)) :: row e8.T e8.sz a (bs).length c (flat e8 bs) :: F) (fun r L' => ∃ (ys' : List UInt8) (ay' : Option Addr) (cy' : Nat), EyeOk W a bs (i + (numR 0 0 ys).2.2) ys' ay' cy' ∧ r = .tuple #[.int .u64 ((numR 0 0 ys).1 : Int), .int .i64 ((numR 0 0 ys).2.1 : Int)] ∧ L' = blk k (.cells #[.slice ay' (ys').length cy'] 98 (0, 0)) :: row e8.T e8.sz a (bs).length c (flat e8 bs) :: F) := by
 have hcap := ok.cap
 have hlen := ok.len
 have hsm := ok.small
 refine f_door (l0 := [(0, .pointer (some ⟨k, 0, none⟩))]) Try.func83 Try.ntmps83 rfl rfl rfl ?_
 refine c_seq ?_
 refine c_region ?_
 refine o_assign rfl rfl ?_
 refine o_assign rfl rfl ?_
 refine l_nil ?_
 refine q_then ?_
 refine c_seq ?_
 refine c_seq ?_
 refine c_region ?_
 refine o_move rfl rfl ?_
 refine o_nil rfl rfl ?_
 refine o_fieldAddr (q := ⟨k, 0, none⟩) rfl rfl Try.underlying98 rfl ti45 rfl ?_
 refine o_load1 rfl rfl Try.underlying45 rfl (rd_mem 0 rfl rfl) ?_
 refine o_len rfl rfl Try.underlying45 ?_
 refine o_move rfl rfl ?_
 refine l_nil ?_
 refine q_then ?_
 refine c_block ?_
 refine c_loop (α := Nat × Nat) (fun z => [(0, .pointer (some ⟨k, 0, none⟩)), (2, .int .u64 (z.2 : Int)), (9, .slice ay ys.length cy), (10, .int .i64 (ys.length : Int)), (11, .int .i64 (z.1 : Int))]) (fun z => blk k (.cells #[.slice ay (ys).length cy] 98 (0, 0)) :: row e8.T e8.sz a (bs).length c (flat e8 bs) :: F) (fun z => numR 0 0 ys = numR z.1 z.2 (ys.drop z.1) ∧ z.1 ≤ 9 ∧ z.2 < 128 ^ z.1 ∧ z.1 ≤ ys.length) (fun z => ys.length - z.1) (0, 0) (by exact ⟨rfl, by omega, by decide, by omega⟩) ⟨(by first | rfl | exact vint (by omega)), (by first | rfl | exact vint (by omega)), (by first | rfl | exact vint (by omega)), (by first | rfl | exact vint (by omega)), (by first | rfl | exact vint (by omega)), trivial⟩ (fun w S => S) ?_
 rintro ⟨j, n⟩ ⟨hq, hj9, hn, hjl⟩
 try dsimp only at *
 refine c_seq ?_
 refine c_region ?_
 refine o_bin rfl rfl rfl b_lss ?_
 refine l_nil ?_
 refine q_then ?_
 refine c_seq ?_
 refine c_cond rfl (fun h1 => ?_) (fun h1 => ?_)
 · -- h1T
  try simp only [decide_eq_true_eq, decide_eq_false_iff_not, Bool.not_eq_eq_eq_not, Bool.not_true, Bool.not_false, Bool.not_eq_true', Bool.not_eq_false', Int.not_lt, Int.not_le, Bool.or_eq_true, Bool.and_eq_true] at h1
  refine c_skip ?_
  refine q_then ?_
  refine c_seq ?_
  refine c_block ?_
  refine c_seq ?_
  refine c_region ?_
  refine o_move rfl rfl ?_
  refine o_index e8_ok rfl rfl rfl Try.underlying45 (by omega) (by omega) (ok.cut (rds_own e8_ok 1 rfl)) fun ad14 ead14 => ?_
  obtain ⟨x14, hx14⟩ : ∃ x, (ys)[((j : Int)).toNat]? = some x := ⟨_, List.getElem?_eq_getElem (by omega)⟩
  have hx14' : ys[j]? = some x14 := hx14
  rw [drop_get hx14'] at hq
  have hxl := x14.toNat_lt
  refine o_load1 rfl rfl Try.underlying5 rfl (rd_sl0 e8_ok ead14 (ok.cut (rds_own e8_ok 1 rfl)) hx14 rfl) ?_
  refine o_assign rfl rfl ?_
  refine o_assign rfl rfl ?_
  refine l_nil ?_
  refine q_then ?_
  refine c_seq ?_
  refine c_seq ?_
  refine c_region ?_
  refine o_move rfl rfl ?_
  refine o_bin rfl rfl rfl b_eql ?_
  refine o_move rfl rfl ?_
  refine l_split (t := 18) rfl (fun h2 => ?_) (fun h2 => ?_)
  · -- h2T
   try simp only [decide_eq_true_eq, decide_eq_false_iff_not, Bool.not_eq_eq_eq_not, Bool.not_true, Bool.not_false, Bool.not_eq_true', Bool.not_eq_false', Int.not_lt, Int.not_le, Bool.or_eq_true, Bool.and_eq_true] at h2
   refine o_yes rfl rfl rfl ?_
   refine o_move rfl rfl ?_
   refine o_yes rfl rfl rfl ?_
   refine o_bin rfl rfl rfl b_gtr ?_
   refine o_pick_true rfl rfl rfl ?_
   refine l_nil ?_
   refine q_then ?_
   refine c_cond rfl (fun h3 => ?_) (fun h3 => ?_)
   · -- h3T
    try simp only [decide_eq_true_eq, decide_eq_false_iff_not, Bool.not_eq_eq_eq_not, Bool.not_true, Bool.not_false, Bool.not_eq_true', Bool.not_eq_false', Int.not_lt, Int.not_le, Bool.or_eq_true, Bool.and_eq_true] at h3
    refine c_seq ?_
    have hres : numR 0 0 ys = (0, 31, 0) := by rw [hq]; exact numR_bad (by omega) (by omega)
    refine c_region ?_
    refine o_assign rfl rfl ?_
    refine o_assign rfl rfl ?_
    refine l_nil ?_
    refine q_then ?_
    refine c_ret ?_
    refine q_pass_ret ?_
    refine q_block_ret ?_
    refine q_pass_ret ?_
    refine q_pass_ret ?_
    refine q_block_ret ?_
    refine q_pass_ret ?_
    exact f_ret (r_two rfl rfl rfl) (⟨ys, ay, cy, by rw [hres]; exact ok, by rw [hres]; rfl, rfl⟩) (fun w S => S)
   · -- h3F
    try simp only [decide_eq_true_eq, decide_eq_false_iff_not, Bool.not_eq_eq_eq_not, Bool.not_true, Bool.not_false, Bool.not_eq_true', Bool.not_eq_false', Int.not_lt, Int.not_le, Bool.or_eq_true, Bool.and_eq_true] at h3
    refine c_skip ?_
    refine q_then ?_
    refine c_seq ?_
    refine c_region ?_
    have hnb : ¬ (j = 9 ∧ 1 < x14.toNat) := by omega
    refine o_move rfl rfl ?_
    refine o_move rfl rfl ?_
    refine o_bin rfl rfl rfl (b_rem (by omega) (tmod128b x14)) ?_
    refine o_int rfl rfl Try.underlying5 Try.underlying22 (wrap_u64 (by omega) (by omega)) ?_
    refine o_move rfl rfl ?_
    refine o_bin rfl rfl rfl (b_mul (wrap_i64 (by omega) (by omega))) ?_
    refine o_bin rfl rfl rfl (b_shl (by omega) (shl7 hj9 (x_bound hj9 hnb))) ?_
    refine o_bin rfl rfl rfl (b_or (or7 hj9 hn hnb)) ?_
    refine o_assign rfl rfl ?_
    refine l_nil ?_
    refine q_then ?_
    refine c_seq ?_
    refine c_region ?_
    refine o_move rfl rfl ?_
    refine o_bin rfl rfl rfl b_lss ?_
    refine l_nil ?_
    refine q_then ?_
    refine c_cond rfl (fun h4 => ?_) (fun h4 => ?_)
    · -- h4T
     try simp only [decide_eq_true_eq, decide_eq_false_iff_not, Bool.not_eq_eq_eq_not, Bool.not_true, Bool.not_false, Bool.not_eq_true', Bool.not_eq_false', Int.not_lt, Int.not_le, Bool.or_eq_true, Bool.and_eq_true] at h4
     refine c_seq ?_
     refine c_seq ?_
     refine c_region ?_
     refine o_move rfl rfl ?_
     refine o_bin rfl rfl rfl b_eql ?_
     refine o_move rfl rfl ?_
     refine l_split (t := 34) rfl (fun h5 => ?_) (fun h5 => ?_)
     · -- h5T
      try simp only [decide_eq_true_eq, decide_eq_false_iff_not, Bool.not_eq_eq_eq_not, Bool.not_true, Bool.not_false, Bool.not_eq_true', Bool.not_eq_false', Int.not_lt, Int.not_le, Bool.or_eq_true, Bool.and_eq_true] at h5
      refine o_yes rfl rfl rfl ?_
      refine o_move rfl rfl ?_
      refine o_yes rfl rfl rfl ?_
      refine o_bin rfl rfl rfl b_gtr ?_
      refine o_pick_true rfl rfl rfl ?_
      refine l_nil ?_
      refine q_then ?_
      refine c_cond rfl (fun h6 => ?_) (fun h6 => ?_)
      · -- h6T
       try simp only [decide_eq_true_eq, decide_eq_false_iff_not, Bool.not_eq_eq_eq_not, Bool.not_true, Bool.not_false, Bool.not_eq_true', Bool.not_eq_false', Int.not_lt, Int.not_le, Bool.or_eq_true, Bool.and_eq_true] at h6
       refine c_seq ?_
       have hres : numR 0 0 ys = (0, 31, 0) := by rw [hq]; exact numR_zero (by omega) (by omega) (by omega)
       refine c_region ?_
       refine o_assign rfl rfl ?_
       refine o_assign rfl rfl ?_
       refine l_nil ?_
       refine q_then ?_
       refine c_ret ?_
       refine q_pass_ret ?_
       refine q_block_ret ?_
       refine q_pass_ret ?_
       refine q_pass_ret ?_
       refine q_block_ret ?_
       refine q_pass_ret ?_
       exact f_ret (r_two rfl rfl rfl) (⟨ys, ay, cy, by rw [hres]; exact ok, by rw [hres]; rfl, rfl⟩) (fun w S => S)
      · -- h6F
       try simp only [decide_eq_true_eq, decide_eq_false_iff_not, Bool.not_eq_eq_eq_not, Bool.not_true, Bool.not_false, Bool.not_eq_true', Bool.not_eq_false', Int.not_lt, Int.not_le, Bool.or_eq_true, Bool.and_eq_true] at h6
       refine c_skip ?_
       refine q_then ?_
       refine c_seq ?_
       have hres : numR 0 0 ys = (n + x14.toNat % 128 * 128 ^ j, 0, j + 1) := by rw [hq]; exact numR_end hnb (by omega) (by omega)
       refine c_region ?_
       refine o_move rfl rfl ?_
       refine o_move rfl rfl ?_
       refine o_nil rfl rfl ?_
       refine o_fieldAddr (q := ⟨k, 0, none⟩) rfl rfl Try.underlying98 rfl ti45 rfl ?_
       refine o_load1 rfl rfl Try.underlying45 rfl (rd_mem 0 rfl rfl) ?_
       refine o_move rfl rfl ?_
       refine o_bin rfl rfl rfl (b_add (wrap_i64 (by omega) (by omega))) ?_
       refine o_cut (l' := (j + 1)) (h' := ((ys).length)) (m := cy) rfl rfl Try.underlying45 ti5 (.inl ⟨rfl, rfl⟩) (.inl ⟨rfl, rfl, rfl⟩) (.inr ⟨_, _, rfl, icast rfl (by omega), (by omega)⟩) ?_
       obtain ⟨ys45, ay45, cut45, hys45, hlys45, eay45⟩ : ∃ ys_ ay_, (∀ {L : List Res}, RdS W L e8 ay ys → RdS W L e8 ay_ ys_) ∧ ys_ = sub ys (j + 1) ((ys).length) ∧ ys_.length = ((ys).length) - (j + 1) ∧ cutA ay cy (j + 1) 1 = ay_ := ⟨_, _, fun h => rds_cut e8_ok h _ _ _ (by omega), rfl, sub_len (by omega), rfl⟩
       refine l_eq (t := 45) (v' := .slice ay45 ys45.length (cy - (j + 1))) rfl (by rw [eay45, hlys45]) ?_
       have hok' : EyeOk W a bs (i + (numR 0 0 ys).2.2) ys45 ay45 (cy - (j + 1)) := by rw [hres, hys45, ← eay45]; exact ok.on (u := j + 1) (by omega)
       refine o_nil rfl rfl ?_
       refine o_fieldAddr (q := ⟨k, 0, none⟩) rfl rfl Try.underlying98 rfl ti45 rfl ?_
       refine o_store1 rfl rfl rfl ti45 rfl rfl ?_
       refine l_nil ?_
       refine q_then ?_
       refine c_seq ?_
       refine c_region ?_
       refine o_move rfl rfl ?_
       refine o_assign rfl rfl ?_
       refine o_assign rfl rfl ?_
       refine l_nil ?_
       refine q_then ?_
       refine c_ret ?_
       refine q_block_ret ?_
       refine q_pass_ret ?_
       refine q_pass_ret ?_
       refine q_block_ret ?_
       refine q_pass_ret ?_
       exact f_ret (r_two rfl rfl rfl) (⟨_, _, _, hok', by rw [hres]; rfl, rfl⟩) (fun w S => S)
     · -- h5F
      try simp only [decide_eq_true_eq, decide_eq_false_iff_not, Bool.not_eq_eq_eq_not, Bool.not_true, Bool.not_false, Bool.not_eq_true', Bool.not_eq_false', Int.not_lt, Int.not_le, Bool.or_eq_true, Bool.and_eq_true] at h5
      refine o_no rfl rfl rfl rfl ?_
      refine o_no rfl rfl rfl rfl ?_
      refine o_pick_false rfl rfl rfl ?_
      refine l_nil ?_
      refine q_then ?_
      refine c_false rfl ?_
      refine c_skip ?_
      refine q_then ?_
      refine c_seq ?_
      have hres : numR 0 0 ys = (n + x14.toNat % 128 * 128 ^ j, 0, j + 1) := by rw [hq]; exact numR_end hnb (by omega) (by omega)
      refine c_region ?_
      refine o_move rfl rfl ?_
      refine o_move rfl rfl ?_
      refine o_nil rfl rfl ?_
      refine o_fieldAddr (q := ⟨k, 0, none⟩) rfl rfl Try.underlying98 rfl ti45 rfl ?_
      refine o_load1 rfl rfl Try.underlying45 rfl (rd_mem 0 rfl rfl) ?_
      refine o_move rfl rfl ?_
      refine o_bin rfl rfl rfl (b_add (wrap_i64 (by omega) (by omega))) ?_
      refine o_cut (l' := (j + 1)) (h' := ((ys).length)) (m := cy) rfl rfl Try.underlying45 ti5 (.inl ⟨rfl, rfl⟩) (.inl ⟨rfl, rfl, rfl⟩) (.inr ⟨_, _, rfl, icast rfl (by omega), (by omega)⟩) ?_
      obtain ⟨ys45, ay45, cut45, hys45, hlys45, eay45⟩ : ∃ ys_ ay_, (∀ {L : List Res}, RdS W L e8 ay ys → RdS W L e8 ay_ ys_) ∧ ys_ = sub ys (j + 1) ((ys).length) ∧ ys_.length = ((ys).length) - (j + 1) ∧ cutA ay cy (j + 1) 1 = ay_ := ⟨_, _, fun h => rds_cut e8_ok h _ _ _ (by omega), rfl, sub_len (by omega), rfl⟩
      refine l_eq (t := 45) (v' := .slice ay45 ys45.length (cy - (j + 1))) rfl (by rw [eay45, hlys45]) ?_
      have hok' : EyeOk W a bs (i + (numR 0 0 ys).2.2) ys45 ay45 (cy - (j + 1)) := by rw [hres, hys45, ← eay45]; exact ok.on (u := j + 1) (by omega)
      refine o_nil rfl rfl ?_
      refine o_fieldAddr (q := ⟨k, 0, none⟩) rfl rfl Try.underlying98 rfl ti45 rfl ?_
      refine o_store1 rfl rfl rfl ti45 rfl rfl ?_
      refine l_nil ?_
      refine q_then ?_
      refine c_seq ?_
      refine c_region ?_
      refine o_move rfl rfl ?_
      refine o_assign rfl rfl ?_
      refine o_assign rfl rfl ?_
      refine l_nil ?_
      refine q_then ?_
      refine c_ret ?_
      refine q_block_ret ?_
      refine q_pass_ret ?_
      refine q_pass_ret ?_
      refine q_block_ret ?_
      refine q_pass_ret ?_
      exact f_ret (r_two rfl rfl rfl) (⟨_, _, _, hok', by rw [hres]; rfl, rfl⟩) (fun w S => S)
    · -- h4F
     try simp only [decide_eq_true_eq, decide_eq_false_iff_not, Bool.not_eq_eq_eq_not, Bool.not_true, Bool.not_false, Bool.not_eq_true', Bool.not_eq_false', Int.not_lt, Int.not_le, Bool.or_eq_true, Bool.and_eq_true] at h4
     refine c_skip ?_
     refine q_block ?_
     refine q_then ?_
     refine c_region ?_
     refine o_bin rfl rfl rfl (b_add (wrap_i64 (by omega) (by omega))) ?_
     refine o_move rfl rfl ?_
     refine l_nil ?_
     exact q_round (j + 1, n + x14.toNat % 128 * 128 ^ j) (by exact ⟨by rw [hq, numR_on hnb (by omega)], by omega, numR_next hn, by omega⟩) (by (try dsimp only); omega) ⟨(by first | rfl | exact vint (by omega)), (by first | rfl | exact vint (by omega)), (by first | rfl | exact vint (by omega)), (by first | rfl | exact vint (by omega)), (by first | rfl | exact vint (by omega)), trivial⟩ (fun w S => S)
  · -- h2F
   try simp only [decide_eq_true_eq, decide_eq_false_iff_not, Bool.not_eq_eq_eq_not, Bool.not_true, Bool.not_false, Bool.not_eq_true', Bool.not_eq_false', Int.not_lt, Int.not_le, Bool.or_eq_true, Bool.and_eq_true] at h2
   refine o_no rfl rfl rfl rfl ?_
   refine o_no rfl rfl rfl rfl ?_
   refine o_pick_false rfl rfl rfl ?_
   refine l_nil ?_
   refine q_then ?_
   refine c_false rfl ?_
   refine c_skip ?_
   refine q_then ?_
   refine c_seq ?_
   refine c_region ?_
   have hnb : ¬ (j = 9 ∧ 1 < x14.toNat) := by omega
   refine o_move rfl rfl ?_
   refine o_move rfl rfl ?_
   refine o_bin rfl rfl rfl (b_rem (by omega) (tmod128b x14)) ?_
   refine o_int rfl rfl Try.underlying5 Try.underlying22 (wrap_u64 (by omega) (by omega)) ?_
   refine o_move rfl rfl ?_
   refine o_bin rfl rfl rfl (b_mul (wrap_i64 (by omega) (by omega))) ?_
   refine o_bin rfl rfl rfl (b_shl (by omega) (shl7 hj9 (x_bound hj9 hnb))) ?_
   refine o_bin rfl rfl rfl (b_or (or7 hj9 hn hnb)) ?_
   refine o_assign rfl rfl ?_
   refine l_nil ?_
   refine q_then ?_
   refine c_seq ?_
   refine c_region ?_
   refine o_move rfl rfl ?_
   refine o_bin rfl rfl rfl b_lss ?_
   refine l_nil ?_
   refine q_then ?_
   refine c_cond rfl (fun h7 => ?_) (fun h7 => ?_)
   · -- h7T
    try simp only [decide_eq_true_eq, decide_eq_false_iff_not, Bool.not_eq_eq_eq_not, Bool.not_true, Bool.not_false, Bool.not_eq_true', Bool.not_eq_false', Int.not_lt, Int.not_le, Bool.or_eq_true, Bool.and_eq_true] at h7
    refine c_seq ?_
    refine c_seq ?_
    refine c_region ?_
    refine o_move rfl rfl ?_
    refine o_bin rfl rfl rfl b_eql ?_
    refine o_move rfl rfl ?_
    refine l_split (t := 34) rfl (fun h8 => ?_) (fun h8 => ?_)
    · -- h8T
     try simp only [decide_eq_true_eq, decide_eq_false_iff_not, Bool.not_eq_eq_eq_not, Bool.not_true, Bool.not_false, Bool.not_eq_true', Bool.not_eq_false', Int.not_lt, Int.not_le, Bool.or_eq_true, Bool.and_eq_true] at h8
     refine o_yes rfl rfl rfl ?_
     refine o_move rfl rfl ?_
     refine o_yes rfl rfl rfl ?_
     refine o_bin rfl rfl rfl b_gtr ?_
     refine o_pick_true rfl rfl rfl ?_
     refine l_nil ?_
     refine q_then ?_
     refine c_cond rfl (fun h9 => ?_) (fun h9 => ?_)
     · -- h9T
      try simp only [decide_eq_true_eq, decide_eq_false_iff_not, Bool.not_eq_eq_eq_not, Bool.not_true, Bool.not_false, Bool.not_eq_true', Bool.not_eq_false', Int.not_lt, Int.not_le, Bool.or_eq_true, Bool.and_eq_true] at h9
      refine c_seq ?_
      have hres : numR 0 0 ys = (0, 31, 0) := by rw [hq]; exact numR_zero (by omega) (by omega) (by omega)
      refine c_region ?_
      refine o_assign rfl rfl ?_
      refine o_assign rfl rfl ?_
      refine l_nil ?_
      refine q_then ?_
      refine c_ret ?_
      refine q_pass_ret ?_
      refine q_block_ret ?_
      refine q_pass_ret ?_
      refine q_pass_ret ?_
      refine q_block_ret ?_
      refine q_pass_ret ?_
      exact f_ret (r_two rfl rfl rfl) (⟨ys, ay, cy, by rw [hres]; exact ok, by rw [hres]; rfl, rfl⟩) (fun w S => S)
     · -- h9F
      try simp only [decide_eq_true_eq, decide_eq_false_iff_not, Bool.not_eq_eq_eq_not, Bool.not_true, Bool.not_false, Bool.not_eq_true', Bool.not_eq_false', Int.not_lt, Int.not_le, Bool.or_eq_true, Bool.and_eq_true] at h9
      refine c_skip ?_
      refine q_then ?_
      refine c_seq ?_
      have hres : numR 0 0 ys = (n + x14.toNat % 128 * 128 ^ j, 0, j + 1) := by rw [hq]; exact numR_end hnb (by omega) (by omega)
      refine c_region ?_
      refine o_move rfl rfl ?_
      refine o_move rfl rfl ?_
      refine o_nil rfl rfl ?_
      refine o_fieldAddr (q := ⟨k, 0, none⟩) rfl rfl Try.underlying98 rfl ti45 rfl ?_
      refine o_load1 rfl rfl Try.underlying45 rfl (rd_mem 0 rfl rfl) ?_
      refine o_move rfl rfl ?_
      refine o_bin rfl rfl rfl (b_add (wrap_i64 (by omega) (by omega))) ?_
      refine o_cut (l' := (j + 1)) (h' := ((ys).length)) (m := cy) rfl rfl Try.underlying45 ti5 (.inl ⟨rfl, rfl⟩) (.inl ⟨rfl, rfl, rfl⟩) (.inr ⟨_, _, rfl, icast rfl (by omega), (by omega)⟩) ?_
      obtain ⟨ys45, ay45, cut45, hys45, hlys45, eay45⟩ : ∃ ys_ ay_, (∀ {L : List Res}, RdS W L e8 ay ys → RdS W L e8 ay_ ys_) ∧ ys_ = sub ys (j + 1) ((ys).length) ∧ ys_.length = ((ys).length) - (j + 1) ∧ cutA ay cy (j + 1) 1 = ay_ := ⟨_, _, fun h => rds_cut e8_ok h _ _ _ (by omega), rfl, sub_len (by omega), rfl⟩
      refine l_eq (t := 45) (v' := .slice ay45 ys45.length (cy - (j + 1))) rfl (by rw [eay45, hlys45]) ?_
      have hok' : EyeOk W a bs (i + (numR 0 0 ys).2.2) ys45 ay45 (cy - (j + 1)) := by rw [hres, hys45, ← eay45]; exact ok.on (u := j + 1) (by omega)
      refine o_nil rfl rfl ?_
      refine o_fieldAddr (q := ⟨k, 0, none⟩) rfl rfl Try.underlying98 rfl ti45 rfl ?_
      refine o_store1 rfl rfl rfl ti45 rfl rfl ?_
      refine l_nil ?_
      refine q_then ?_
      refine c_seq ?_
      refine c_region ?_
      refine o_move rfl rfl ?_
      refine o_assign rfl rfl ?_
      refine o_assign rfl rfl ?_
      refine l_nil ?_
      refine q_then ?_
      refine c_ret ?_
      refine q_block_ret ?_
      refine q_pass_ret ?_
      refine q_pass_ret ?_
      refine q_block_ret ?_
      refine q_pass_ret ?_
      exact f_ret (r_two rfl rfl rfl) (⟨_, _, _, hok', by rw [hres]; rfl, rfl⟩) (fun w S => S)
    · -- h8F
     try simp only [decide_eq_true_eq, decide_eq_false_iff_not, Bool.not_eq_eq_eq_not, Bool.not_true, Bool.not_false, Bool.not_eq_true', Bool.not_eq_false', Int.not_lt, Int.not_le, Bool.or_eq_true, Bool.and_eq_true] at h8
     refine o_no rfl rfl rfl rfl ?_
     refine o_no rfl rfl rfl rfl ?_
     refine o_pick_false rfl rfl rfl ?_
     refine l_nil ?_
     refine q_then ?_
     refine c_false rfl ?_
     refine c_skip ?_
     refine q_then ?_
     refine c_seq ?_
     have hres : numR 0 0 ys = (n + x14.toNat % 128 * 128 ^ j, 0, j + 1) := by rw [hq]; exact numR_end hnb (by omega) (by omega)
     refine c_region ?_
     refine o_move rfl rfl ?_
     refine o_move rfl rfl ?_
     refine o_nil rfl rfl ?_
     refine o_fieldAddr (q := ⟨k, 0, none⟩) rfl rfl Try.underlying98 rfl ti45 rfl ?_
     refine o_load1 rfl rfl Try.underlying45 rfl (rd_mem 0 rfl rfl) ?_
     refine o_move rfl rfl ?_
     refine o_bin rfl rfl rfl (b_add (wrap_i64 (by omega) (by omega))) ?_
     refine o_cut (l' := (j + 1)) (h' := ((ys).length)) (m := cy) rfl rfl Try.underlying45 ti5 (.inl ⟨rfl, rfl⟩) (.inl ⟨rfl, rfl, rfl⟩) (.inr ⟨_, _, rfl, icast rfl (by omega), (by omega)⟩) ?_
     obtain ⟨ys45, ay45, cut45, hys45, hlys45, eay45⟩ : ∃ ys_ ay_, (∀ {L : List Res}, RdS W L e8 ay ys → RdS W L e8 ay_ ys_) ∧ ys_ = sub ys (j + 1) ((ys).length) ∧ ys_.length = ((ys).length) - (j + 1) ∧ cutA ay cy (j + 1) 1 = ay_ := ⟨_, _, fun h => rds_cut e8_ok h _ _ _ (by omega), rfl, sub_len (by omega), rfl⟩
     refine l_eq (t := 45) (v' := .slice ay45 ys45.length (cy - (j + 1))) rfl (by rw [eay45, hlys45]) ?_
     have hok' : EyeOk W a bs (i + (numR 0 0 ys).2.2) ys45 ay45 (cy - (j + 1)) := by rw [hres, hys45, ← eay45]; exact ok.on (u := j + 1) (by omega)
     refine o_nil rfl rfl ?_
     refine o_fieldAddr (q := ⟨k, 0, none⟩) rfl rfl Try.underlying98 rfl ti45 rfl ?_
     refine o_store1 rfl rfl rfl ti45 rfl rfl ?_
     refine l_nil ?_
     refine q_then ?_
     refine c_seq ?_
     refine c_region ?_
     refine o_move rfl rfl ?_
     refine o_assign rfl rfl ?_
     refine o_assign rfl rfl ?_
     refine l_nil ?_
     refine q_then ?_
     refine c_ret ?_
     refine q_block_ret ?_
     refine q_pass_ret ?_
     refine q_pass_ret ?_
     refine q_block_ret ?_
     refine q_pass_ret ?_
     exact f_ret (r_two rfl rfl rfl) (⟨_, _, _, hok', by rw [hres]; rfl, rfl⟩) (fun w S => S)
   · -- h7F
    try simp only [decide_eq_true_eq, decide_eq_false_iff_not, Bool.not_eq_eq_eq_not, Bool.not_true, Bool.not_false, Bool.not_eq_true', Bool.not_eq_false', Int.not_lt, Int.not_le, Bool.or_eq_true, Bool.and_eq_true] at h7
    refine c_skip ?_
    refine q_block ?_
    refine q_then ?_
    refine c_region ?_
    refine o_bin rfl rfl rfl (b_add (wrap_i64 (by omega) (by omega))) ?_
    refine o_move rfl rfl ?_
    refine l_nil ?_
    exact q_round (j + 1, n + x14.toNat % 128 * 128 ^ j) (by exact ⟨by rw [hq, numR_on hnb (by omega)], by omega, numR_next hn, by omega⟩) (by (try dsimp only); omega) ⟨(by first | rfl | exact vint (by omega)), (by first | rfl | exact vint (by omega)), (by first | rfl | exact vint (by omega)), (by first | rfl | exact vint (by omega)), (by first | rfl | exact vint (by omega)), trivial⟩ (fun w S => S)
 · -- h1F
  try simp only [decide_eq_true_eq, decide_eq_false_iff_not, Bool.not_eq_eq_eq_not, Bool.not_true, Bool.not_false, Bool.not_eq_true', Bool.not_eq_false', Int.not_lt, Int.not_le, Bool.or_eq_true, Bool.and_eq_true] at h1
  refine c_exit ?_
  refine q_pass_exit ?_
  refine q_pass_exit ?_
  refine q_hit ?_
  refine q_then ?_
  refine c_seq ?_
  refine c_region ?_
  refine o_assign rfl rfl ?_
  refine o_assign rfl rfl ?_
  refine l_nil ?_
  refine q_then ?_
  refine c_ret ?_
  exact f_ret (r_two rfl rfl rfl) (⟨ys, ay, cy, by rw [hq, List.drop_of_length_le (by omega), numR]; exact ok, by rw [hq, List.drop_of_length_le (by omega), numR]; rfl, rfl⟩) (fun w S => S)

theorem eyeText {W : World} {F : List Res} {k i : Nat} {bs ys : List UInt8} {a ay : Option Addr} {c cy : Nat} (ok : EyeOk W a bs i ys ay cy) : CS Try.prog 84 #[.pointer (some ⟨k, 0, none⟩)] W (blk k (.cells #[.slice ay (ys).length cy] 98 (0, 0)) :: row e8.T e8.sz a (bs).length c (flat e8 bs) :: F) (fun r L' => ∃ (out ys' : List UInt8) (ay' : Option Addr) (cy' : Nat) (a2 : Option Addr) (c2 : Nat), out = (textR ys).1 ∧ EyeOk W a bs (i + (textR ys).2.2) ys' ay' cy' ∧ r = .tuple #[.slice a2 out.length c2, .int .i64 ((textR ys).2.1 : Int)] ∧ L' = row e8.T e8.sz a2 (out).length c2 (flat e8 out) :: blk k (.cells #[.slice ay' (ys').length cy'] 98 (0, 0)) :: row e8.T e8.sz a (bs).length c (flat e8 bs) :: F) := by
 have hcap := ok.cap
 have hlen := ok.len
 have hsm := ok.small
 have hu := numR_used ys 0 0
 refine f_door (l0 := [(0, .pointer (some ⟨k, 0, none⟩))]) Try.func84 Try.ntmps84 rfl rfl rfl ?_
 refine c_seq ?_
 refine c_region ?_
 refine o_assign rfl rfl ?_
 refine o_assign rfl rfl ?_
 refine l_nil ?_
 refine q_then ?_
 refine c_seq ?_
 refine c_region ?_
 refine o_move rfl rfl ?_
 refine o_nil rfl rfl ?_
 refine o_fieldAddr (q := ⟨k, 0, none⟩) rfl rfl Try.underlying98 rfl ti45 rfl ?_
 refine o_load1 rfl rfl Try.underlying45 rfl (rd_mem 0 rfl rfl) ?_
 refine o_assign rfl rfl ?_
 refine l_nil ?_
 refine q_then ?_
 refine c_seq ?_
 refine c_region ?_
 refine o_move rfl rfl ?_
 refine l_f1 ?_
 refine l_f1 ?_
 refine o_call rfl cal83 rfl (eyeNum ok) ?_
 rintro _ _ ⟨ys14, ay14, cy14, ok14, rfl, rfl⟩
 have hc14 := ok14.cap
 have hl14 := ok14.len
 have hi14 := ok14.le
 have hii := ok.le
 have h14 : ys14 = ys.drop (numR 0 0 ys).2.2 := by rw [ok14.is, ok.is, List.drop_drop]
 refine o_move rfl rfl ?_
 refine o_extract rfl rfl rfl ?_
 refine o_extract rfl rfl rfl ?_
 refine o_assign rfl rfl ?_
 refine o_assign rfl rfl ?_
 refine l_nil ?_
 refine q_then ?_
 refine c_seq ?_
 refine c_seq ?_
 refine c_region ?_
 refine o_move rfl rfl ?_
 refine o_bin rfl rfl rfl b_eql ?_
 refine o_move rfl rfl ?_
 refine l_split (t := 19) rfl (fun h1 => ?_) (fun h1 => ?_)
 · -- h1T
  try simp only [decide_eq_true_eq, decide_eq_false_iff_not, Bool.not_eq_eq_eq_not, Bool.not_true, Bool.not_false, Bool.not_eq_true', Bool.not_eq_false', Int.not_lt, Int.not_le, Bool.or_eq_true, Bool.and_eq_true] at h1
  refine o_yes rfl rfl rfl ?_
  refine o_move rfl rfl ?_
  refine o_yes rfl rfl rfl ?_
  refine o_move rfl rfl ?_
  refine o_yes rfl rfl rfl ?_
  refine o_nil rfl rfl ?_
  refine o_yes rfl rfl rfl ?_
  refine o_fieldAddr (q := ⟨k, 0, none⟩) rfl rfl Try.underlying98 rfl ti45 rfl ?_
  refine o_yes rfl rfl rfl ?_
  refine o_load1 rfl rfl Try.underlying45 rfl (rd_mem 0 rfl rfl) ?_
  refine o_yes rfl rfl rfl ?_
  refine o_len rfl rfl Try.underlying45 ?_
  refine o_yes rfl rfl rfl ?_
  refine o_int rfl rfl Try.underlying3 Try.underlying22 (wrap_u64 (by omega) (by omega)) ?_
  refine o_yes rfl rfl rfl ?_
  refine o_bin rfl rfl rfl b_gtr ?_
  refine o_pick_true rfl rfl rfl ?_
  refine l_nil ?_
  refine q_then ?_
  refine c_cond rfl (fun h2 => ?_) (fun h2 => ?_)
  · -- h2T
   try simp only [decide_eq_true_eq, decide_eq_false_iff_not, Bool.not_eq_eq_eq_not, Bool.not_true, Bool.not_false, Bool.not_eq_true', Bool.not_eq_false', Int.not_lt, Int.not_le, Bool.or_eq_true, Bool.and_eq_true] at h2
   refine c_region ?_
   refine o_assign rfl rfl ?_
   refine l_nil ?_
   refine q_then ?_
   refine c_seq ?_
   refine c_seq ?_
   refine c_region ?_
   refine o_move rfl rfl ?_
   refine o_bin rfl rfl rfl b_neq ?_
   refine l_eq (t := 30) (v' := .bool true) rfl (show _ = Value.bool true from by rfl) ?_
   refine l_nil ?_
   refine q_then ?_
   refine c_true rfl ?_
   refine c_seq ?_
   refine c_region ?_
   refine o_move rfl rfl ?_
   refine o_move rfl rfl ?_
   refine o_nil rfl rfl ?_
   refine o_fieldAddr (q := ⟨k, 0, none⟩) rfl rfl Try.underlying98 rfl ti45 rfl ?_
   refine o_store1 rfl rfl rfl ti45 rfl rfl ?_
   refine l_nil ?_
   refine q_then ?_
   refine c_seq ?_
   refine c_nilrow e8 ?_
   refine c_region ?_
   refine o_move rfl rfl ?_
   refine o_assign rfl rfl ?_
   refine o_assign rfl rfl ?_
   refine l_nil ?_
   refine q_then ?_
   refine c_ret ?_
   refine q_pass_ret ?_
   exact f_ret (r_two rfl rfl rfl) (⟨[], ys, ay, cy, none, 0, by rw [textR_short (by omega) (by omega)], by rw [textR_short (by omega) (by omega)]; exact ok, by rw [textR_short (by omega) (by omega)]; rfl, rfl⟩) (fun w S => S)
  · -- h2F
   try simp only [decide_eq_true_eq, decide_eq_false_iff_not, Bool.not_eq_eq_eq_not, Bool.not_true, Bool.not_false, Bool.not_eq_true', Bool.not_eq_false', Int.not_lt, Int.not_le, Bool.or_eq_true, Bool.and_eq_true] at h2
   refine c_skip ?_
   refine q_then ?_
   refine c_seq ?_
   refine c_seq ?_
   refine c_region ?_
   refine o_move rfl rfl ?_
   refine o_bin rfl rfl rfl b_neq ?_
   refine l_nil ?_
   refine q_then ?_
   refine c_cond rfl (fun h3 => ?_) (fun h3 => ?_)
   · -- h3T
    try simp only [decide_eq_true_eq, decide_eq_false_iff_not, Bool.not_eq_eq_eq_not, Bool.not_true, Bool.not_false, Bool.not_eq_true', Bool.not_eq_false', Int.not_lt, Int.not_le, Bool.or_eq_true, Bool.and_eq_true] at h3
    refine c_seq ?_
    refine c_region ?_
    refine o_move rfl rfl ?_
    refine o_move rfl rfl ?_
    refine o_nil rfl rfl ?_
    refine o_fieldAddr (q := ⟨k, 0, none⟩) rfl rfl Try.underlying98 rfl ti45 rfl ?_
    refine o_store1 rfl rfl rfl ti45 rfl rfl ?_
    refine l_nil ?_
    refine q_then ?_
    refine c_seq ?_
    refine c_nilrow e8 ?_
    refine c_region ?_
    refine o_move rfl rfl ?_
    refine o_assign rfl rfl ?_
    refine o_assign rfl rfl ?_
    refine l_nil ?_
    refine q_then ?_
    refine c_ret ?_
    refine q_pass_ret ?_
    exact f_ret (r_two rfl rfl rfl) (⟨[], ys, ay, cy, none, 0, by rw [textR_err (by omega)], by rw [textR_err (by omega)]; exact ok, by rw [textR_err (by omega)]; rfl, rfl⟩) (fun w S => S)
   · -- h3F
    try simp only [decide_eq_true_eq, decide_eq_false_iff_not, Bool.not_eq_eq_eq_not, Bool.not_true, Bool.not_false, Bool.not_eq_true', Bool.not_eq_false', Int.not_lt, Int.not_le, Bool.or_eq_true, Bool.and_eq_true] at h3
    refine c_skip ?_
    refine q_then ?_
    refine c_seq ?_
    refine c_region ?_
    refine o_move rfl rfl ?_
    refine o_nil rfl rfl ?_
    refine o_fieldAddr (q := ⟨k, 0, none⟩) rfl rfl Try.underlying98 rfl ti45 rfl ?_
    refine o_load1 rfl rfl Try.underlying45 rfl (rd_mem 0 rfl rfl) ?_
    refine o_move rfl rfl ?_
    refine o_cut (l' := 0) (h' := ((numR 0 0 ys).1)) (m := cy14) rfl rfl Try.underlying45 ti5 (.inl ⟨rfl, rfl⟩) (.inr ⟨_, _, rfl, icast rfl rfl, (by omega)⟩) (.inl ⟨rfl, rfl⟩) ?_
    obtain ⟨ys41, ay41, cut41, hys41, hlys41, eay41⟩ : ∃ ys_ ay_, (∀ {L : List Res}, RdS W L e8 ay14 ys14 → RdS W L e8 ay_ ys_) ∧ ys_ = sub ys14 0 ((numR 0 0 ys).1) ∧ ys_.length = ((numR 0 0 ys).1) - 0 ∧ cutA ay14 cy14 0 1 = ay_ := ⟨_, _, fun h => rds_cut e8_ok h _ _ _ (by omega), rfl, sub_len (by omega), rfl⟩
    refine l_eq (t := 41) (v' := .slice ay41 ys41.length (cy14 - 0)) rfl (by rw [eay41, hlys41]) ?_
    refine o_call rfl cal56 rfl (clone8p (cut41 (ok14.cut (rds_own e8_ok 1 rfl))) (by omega)) ?_
    rintro _ _ ⟨a42, c42, rfl, rfl⟩
    refine o_assign rfl rfl ?_
    refine l_nil ?_
    refine q_then ?_
    refine c_seq ?_
    refine c_region ?_
    refine o_move rfl rfl ?_
    refine o_move rfl rfl ?_
    refine o_nil rfl rfl ?_
    refine o_fieldAddr (q := ⟨k, 0, none⟩) rfl rfl Try.underlying98 rfl ti45 rfl ?_
    refine o_load1 rfl rfl Try.underlying45 rfl (rd_mem 1 rfl rfl) ?_
    refine o_move rfl rfl ?_
    refine o_cut (l' := ((numR 0 0 ys).1)) (h' := ((ys14).length)) (m := cy14) rfl rfl Try.underlying45 ti5 (.inl ⟨rfl, rfl⟩) (.inl ⟨rfl, rfl, rfl⟩) (.inr ⟨_, _, rfl, icast rfl rfl, (by omega)⟩) ?_
    obtain ⟨ys49, ay49, cut49, hys49, hlys49, eay49⟩ : ∃ ys_ ay_, (∀ {L : List Res}, RdS W L e8 ay14 ys14 → RdS W L e8 ay_ ys_) ∧ ys_ = sub ys14 ((numR 0 0 ys).1) ((ys14).length) ∧ ys_.length = ((ys14).length) - ((numR 0 0 ys).1) ∧ cutA ay14 cy14 ((numR 0 0 ys).1) 1 = ay_ := ⟨_, _, fun h => rds_cut e8_ok h _ _ _ (by omega), rfl, sub_len (by omega), rfl⟩
    refine l_eq (t := 49) (v' := .slice ay49 ys49.length (cy14 - ((numR 0 0 ys).1))) rfl (by rw [eay49, hlys49]) ?_
    refine o_nil rfl rfl ?_
    refine o_fieldAddr (q := ⟨k, 0, none⟩) rfl rfl Try.underlying98 rfl ti45 rfl ?_
    refine l_f1 ?_
    refine o_store1 rfl rfl rfl ti45 rfl rfl ?_
    refine l_nil ?_
    refine q_then ?_
    refine c_seq ?_
    refine c_region ?_
    refine o_move rfl rfl ?_
    refine o_assign rfl rfl ?_
    refine o_assign rfl rfl ?_
    refine l_nil ?_
    refine q_then ?_
    refine c_ret ?_
    refine q_conv (fun w S => S.perm p2) ?_
    refine q_conv (fun w S => S.perm p1) ?_
    refine q_conv (fun w S => S.perm p2) ?_
    exact f_ret (r_two rfl rfl rfl) (⟨ys41, ys49, ay49, _, a42, c42, by rw [hys41, h14, sub_drop, textR_ok (by omega) (by omega)], by rw [textR_ok (by omega) (by omega), hys49, ← eay49, ← Nat.add_assoc]; exact ok14.on (u := (numR 0 0 ys).1) (by omega), by rw [textR_ok (by omega) (by omega)]; rfl, rfl⟩) (fun w S => S)
 · -- h1F
  try simp only [decide_eq_true_eq, decide_eq_false_iff_not, Bool.not_eq_eq_eq_not, Bool.not_true, Bool.not_false, Bool.not_eq_true', Bool.not_eq_false', Int.not_lt, Int.not_le, Bool.or_eq_true, Bool.and_eq_true] at h1
  refine o_no rfl rfl rfl rfl ?_
  refine o_no rfl rfl rfl rfl ?_
  refine o_no rfl rfl rfl rfl ?_
  refine o_no rfl rfl rfl rfl ?_
  refine o_no rfl rfl rfl rfl ?_
  refine o_no rfl rfl rfl rfl ?_
  refine o_no rfl rfl rfl rfl ?_
  refine o_no rfl rfl rfl rfl ?_
  refine o_pick_false rfl rfl rfl ?_
  refine l_nil ?_
  refine q_then ?_
  refine c_false rfl ?_
  refine c_skip ?_
  refine q_then ?_
  refine c_seq ?_
  refine c_seq ?_
  refine c_region ?_
  refine o_move rfl rfl ?_
  refine o_bin rfl rfl rfl b_neq ?_
  refine l_nil ?_
  refine q_then ?_
  refine c_cond rfl (fun h4 => ?_) (fun h4 => ?_)
  · -- h4T
   try simp only [decide_eq_true_eq, decide_eq_false_iff_not, Bool.not_eq_eq_eq_not, Bool.not_true, Bool.not_false, Bool.not_eq_true', Bool.not_eq_false', Int.not_lt, Int.not_le, Bool.or_eq_true, Bool.and_eq_true] at h4
   refine c_seq ?_
   refine c_region ?_
   refine o_move rfl rfl ?_
   refine o_move rfl rfl ?_
   refine o_nil rfl rfl ?_
   refine o_fieldAddr (q := ⟨k, 0, none⟩) rfl rfl Try.underlying98 rfl ti45 rfl ?_
   refine o_store1 rfl rfl rfl ti45 rfl rfl ?_
   refine l_nil ?_
   refine q_then ?_
   refine c_seq ?_
   refine c_nilrow e8 ?_
   refine c_region ?_
   refine o_move rfl rfl ?_
   refine o_assign rfl rfl ?_
   refine o_assign rfl rfl ?_
   refine l_nil ?_
   refine q_then ?_
   refine c_ret ?_
   refine q_pass_ret ?_
   exact f_ret (r_two rfl rfl rfl) (⟨[], ys, ay, cy, none, 0, by rw [textR_err (by omega)], by rw [textR_err (by omega)]; exact ok, by rw [textR_err (by omega)]; rfl, rfl⟩) (fun w S => S)
  · -- h4F
   try simp only [decide_eq_true_eq, decide_eq_false_iff_not, Bool.not_eq_eq_eq_not, Bool.not_true, Bool.not_false, Bool.not_eq_true', Bool.not_eq_false', Int.not_lt, Int.not_le, Bool.or_eq_true, Bool.and_eq_true] at h4
   refine c_skip ?_
   refine q_then ?_
   refine c_seq ?_
   refine c_region ?_
   refine o_move rfl rfl ?_
   refine o_nil rfl rfl ?_
   refine o_fieldAddr (q := ⟨k, 0, none⟩) rfl rfl Try.underlying98 rfl ti45 rfl ?_
   refine o_load1 rfl rfl Try.underlying45 rfl (rd_mem 0 rfl rfl) ?_
   refine o_move rfl rfl ?_
   refine o_cut (l' := 0) (h' := ((numR 0 0 ys).1)) (m := cy14) rfl rfl Try.underlying45 ti5 (.inl ⟨rfl, rfl⟩) (.inr ⟨_, _, rfl, icast rfl rfl, (by omega)⟩) (.inl ⟨rfl, rfl⟩) ?_
   obtain ⟨ys41, ay41, cut41, hys41, hlys41, eay41⟩ : ∃ ys_ ay_, (∀ {L : List Res}, RdS W L e8 ay14 ys14 → RdS W L e8 ay_ ys_) ∧ ys_ = sub ys14 0 ((numR 0 0 ys).1) ∧ ys_.length = ((numR 0 0 ys).1) - 0 ∧ cutA ay14 cy14 0 1 = ay_ := ⟨_, _, fun h => rds_cut e8_ok h _ _ _ (by omega), rfl, sub_len (by omega), rfl⟩
   refine l_eq (t := 41) (v' := .slice ay41 ys41.length (cy14 - 0)) rfl (by rw [eay41, hlys41]) ?_
   refine o_call rfl cal56 rfl (clone8p (cut41 (ok14.cut (rds_own e8_ok 1 rfl))) (by omega)) ?_
   rintro _ _ ⟨a42, c42, rfl, rfl⟩
   refine o_assign rfl rfl ?_
   refine l_nil ?_
   refine q_then ?_
   refine c_seq ?_
   refine c_region ?_
   refine o_move rfl rfl ?_
   refine o_move rfl rfl ?_
   refine o_nil rfl rfl ?_
   refine o_fieldAddr (q := ⟨k, 0, none⟩) rfl rfl Try.underlying98 rfl ti45 rfl ?_
   refine o_load1 rfl rfl Try.underlying45 rfl (rd_mem 1 rfl rfl) ?_
   refine o_move rfl rfl ?_
   refine o_cut (l' := ((numR 0 0 ys).1)) (h' := ((ys14).length)) (m := cy14) rfl rfl Try.underlying45 ti5 (.inl ⟨rfl, rfl⟩) (.inl ⟨rfl, rfl, rfl⟩) (.inr ⟨_, _, rfl, icast rfl rfl, (by omega)⟩) ?_
   obtain ⟨ys49, ay49, cut49, hys49, hlys49, eay49⟩ : ∃ ys_ ay_, (∀ {L : List Res}, RdS W L e8 ay14 ys14 → RdS W L e8 ay_ ys_) ∧ ys_ = sub ys14 ((numR 0 0 ys).1) ((ys14).length) ∧ ys_.length = ((ys14).length) - ((numR 0 0 ys).1) ∧ cutA ay14 cy14 ((numR 0 0 ys).1) 1 = ay_ := ⟨_, _, fun h => rds_cut e8_ok h _ _ _ (by omega), rfl, sub_len (by omega), rfl⟩
   refine l_eq (t := 49) (v' := .slice ay49 ys49.length (cy14 - ((numR 0 0 ys).1))) rfl (by rw [eay49, hlys49]) ?_
   refine o_nil rfl rfl ?_
   refine o_fieldAddr (q := ⟨k, 0, none⟩) rfl rfl Try.underlying98 rfl ti45 rfl ?_
   refine l_f1 ?_
   refine o_store1 rfl rfl rfl ti45 rfl rfl ?_
   refine l_nil ?_
   refine q_then ?_
   refine c_seq ?_
   refine c_region ?_
   refine o_move rfl rfl ?_
   refine o_assign rfl rfl ?_
   refine o_assign rfl rfl ?_
   refine l_nil ?_
   refine q_then ?_
   refine c_ret ?_
   refine q_conv (fun w S => S.perm p2) ?_
   refine q_conv (fun w S => S.perm p1) ?_
   refine q_conv (fun w S => S.perm p2) ?_
   exact f_ret (r_two rfl rfl rfl) (⟨ys41, ys49, ay49, _, a42, c42, by rw [hys41, h14, sub_drop, textR_ok (by omega) (by omega)], by rw [textR_ok (by omega) (by omega), hys49, ← eay49, ← Nat.add_assoc]; exact ok14.on (u := (numR 0 0 ys).1) (by omega), by rw [textR_ok (by omega) (by omega)]; rfl, rfl⟩) (fun w S => S)

end Go.Proofs.Ytlblipkcbmcfkaa
