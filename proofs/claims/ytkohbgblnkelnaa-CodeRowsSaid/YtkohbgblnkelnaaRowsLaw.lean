/- Printed by eng.py out of 01/spec.py. -/
import Derived.Test.YtkohbgblnkelnaaFrame
set_option linter.unusedVariables false
set_option linter.unusedSimpArgs false
set_option maxRecDepth 10000
namespace Go.Proofs.Ytkohbgblnkelnaa
open Go.RowKit
def allF (ls : List (Sl UInt8)) (i : Nat) : List UInt8 := (ls.take i).flatMap fun x => frameB x.xs
theorem allF_succ {ls : List (Sl UInt8)} {i : Nat} {x : Sl UInt8} (h : ls[i]? = some x) : allF ls (i + 1) = allF ls i ++ frameB x.xs := by
  unfold allF
  rw [List.take_add_one, h]
  simp
theorem allF_split {ls : List (Sl UInt8)} {i : Nat} {x : Sl UInt8} (h : ls[i]? = some x) : ∃ r, allF ls ls.length = allF ls i ++ (frameB x.xs ++ r) := by
  refine ⟨(ls.drop (i + 1)).flatMap fun x => frameB x.xs, ?_⟩
  have h1 : allF ls ls.length = (ls.take (i + 1) ++ ls.drop (i + 1)).flatMap fun x => frameB x.xs := by unfold allF; rw [List.take_length, List.take_append_drop]
  rw [h1, List.flatMap_append]
  have h2 : (ls.take (i + 1)).flatMap (fun x => frameB x.xs) = allF ls (i + 1) := rfl
  rw [h2, allF_succ h, List.append_assoc]
theorem small_next {ls : List (Sl UInt8)} {i : Nat} {x : Sl UInt8} (h : ∀ j y, j < i → ls[j]? = some y → y.xs.length ≤ 1000) (hx : ls[i]? = some x) (hl : x.xs.length ≤ 1000) : ∀ j y, j < i + 1 → ls[j]? = some y → y.xs.length ≤ 1000 := fun j y hj hy => by
  by_cases hji : j < i
  · exact h j y hji hy
  · obtain rfl : j = i := by omega
    rw [hx] at hy
    cases hy
    exact hl
theorem sub_behind {α : Type} (p q : List α) (m : Nat) : sub (p ++ q) p.length (p.length + m) = q.take m := by
  unfold sub
  rw [List.take_length_add_append, List.drop_left]
theorem sub_behind_all {α : Type} (p q : List α) : sub (p ++ q) p.length (p ++ q).length = q := by
  unfold sub
  rw [List.take_length, List.drop_left]
set_option maxHeartbeats 1000000 in
theorem rows_ {W : World} {F : List Res} {ls : List (Sl UInt8)} {a : Option Addr} {c : Nat} {k : Int} (hs : SlR W eBs a ls) (hg : ∀ x ∈ ls, SlGood W e8 (fun _ => True) x) : CS Try.prog 9 #[.slice a ls.length c, .int .i64 k] W (F) (fun r L' => r = .bool true ∧ F = L') := by
  refine f_door (l0 := [(0, .slice a ls.length c), (1, .int .i64 k)]) Try.func9 Try.ntmps9 rfl rfl rfl ?_
  refine c_seq ?_
  refine c_region ?_
  refine o_assign rfl rfl ?_
  refine l_nil ?_
  refine q_then ?_
  refine c_seq ?_
  refine c_seq ?_
  refine c_region ?_
  refine o_call rfl cal12 rfl (speaks_) ?_
  rintro _ _ ⟨rfl, rfl⟩
  refine o_not rfl rfl ?_
  refine l_nil ?_
  refine q_then ?_
  refine c_false rfl ?_
  refine c_skip ?_
  refine q_then ?_
  refine c_seq ?_
  refine c_seq ?_
  refine c_region ?_
  refine o_move rfl rfl ?_
  refine o_len rfl rfl Try.underlying59 ?_
  refine o_bin rfl rfl rfl b_gtr ?_
  refine l_nil ?_
  refine q_then ?_
  refine c_cond rfl (fun h1 => ?_) (fun h1 => ?_)
  · -- h1T
    try simp only [decide_eq_true_eq, decide_eq_false_iff_not, Bool.not_eq_eq_eq_not, Bool.not_true, Bool.not_false, Bool.not_eq_true', Bool.not_eq_false', Int.not_lt, Int.not_le, Bool.or_eq_true, Bool.and_eq_true] at h1
    refine c_seq ?_
    refine c_region ?_
    refine o_assign rfl rfl ?_
    refine l_nil ?_
    refine q_then ?_
    refine c_ret ?_
    refine q_pass_ret ?_
    exact f_ret (r_one rfl rfl) (⟨rfl, rfl⟩) (fun w S => S)
  · -- h1F
    try simp only [decide_eq_true_eq, decide_eq_false_iff_not, Bool.not_eq_eq_eq_not, Bool.not_true, Bool.not_false, Bool.not_eq_true', Bool.not_eq_false', Int.not_lt, Int.not_le, Bool.or_eq_true, Bool.and_eq_true] at h1
    refine c_skip ?_
    refine q_then ?_
    refine c_seq ?_
    refine c_region ?_
    refine o_lit e8_ok rfl Try.underlying25 rfl rfl rfl (lit_ok rfl) ([] : List UInt8) rfl rfl fun a24 => ?_
    refine o_assign rfl rfl ?_
    refine l_nil ?_
    refine q_then ?_
    refine c_seq ?_
    refine c_seq ?_
    refine c_region ?_
    refine o_move rfl rfl ?_
    refine o_len rfl rfl Try.underlying59 ?_
    refine o_move rfl rfl ?_
    refine l_nil ?_
    refine q_then ?_
    refine c_block ?_
    refine c_loop (α := Nat × (Option Addr) × Nat) (fun z => [(0, .slice a ls.length c), (1, .int .i64 k), (5, .slice z.2.1 (allF ls z.1).length z.2.2), (25, .slice a ls.length c), (26, .int .i64 (ls.length : Int)), (27, .int .i64 (z.1 : Int))]) (fun z => row e8.T e8.sz z.2.1 ((allF ls z.1)).length z.2.2 (flat e8 (allF ls z.1)) :: F) (fun z => z.1 ≤ ls.length ∧ (∀ j x, j < z.1 → ls[j]? = some x → x.xs.length ≤ 1000) ∧ (allF ls z.1).length ≤ z.1 * 1006) (fun z => ls.length - z.1) (0, a24, 0) (by exact ⟨Nat.zero_le _, fun j x hj => absurd hj (by omega), Nat.zero_le _⟩) ⟨(by first | rfl | exact vint (by omega)), (by first | rfl | exact vint (by omega)), (by rfl), (by first | rfl | exact vint (by omega)), (by first | rfl | exact vint (by omega)), (by first | rfl | exact vint (by omega)), trivial⟩ (fun w S => S) ?_
    rintro ⟨i, a1, c1⟩ ⟨hi, hsm, hal⟩
    try dsimp only at *
    refine c_seq ?_
    refine c_region ?_
    refine o_bin rfl rfl rfl b_lss ?_
    refine l_nil ?_
    refine q_then ?_
    refine c_seq ?_
    refine c_cond rfl (fun h2 => ?_) (fun h2 => ?_)
    · -- h2T
      try simp only [decide_eq_true_eq, decide_eq_false_iff_not, Bool.not_eq_eq_eq_not, Bool.not_true, Bool.not_false, Bool.not_eq_true', Bool.not_eq_false', Int.not_lt, Int.not_le, Bool.or_eq_true, Bool.and_eq_true] at h2
      refine c_skip ?_
      refine q_then ?_
      refine c_seq ?_
      refine c_block ?_
      refine c_seq ?_
      refine c_region ?_
      refine o_index eBs_ok rfl rfl rfl Try.underlying59 (by omega) (by omega) (rds_old hs) fun ad29 ead29 => ?_
      obtain ⟨x29, hx29⟩ : ∃ x, (ls)[((i : Int)).toNat]? = some x := ⟨_, List.getElem?_eq_getElem (by omega)⟩
      refine o_load1 rfl rfl Try.underlying25 rfl (rd_sl0 eBs_ok ead29 (rds_old hs) hx29 rfl) ?_
      refine o_assign rfl rfl ?_
      refine l_nil ?_
      refine q_then ?_
      refine c_seq ?_
      refine c_seq ?_
      refine c_region ?_
      refine o_move rfl rfl ?_
      refine o_len rfl rfl Try.underlying25 ?_
      refine o_bin rfl rfl rfl b_gtr ?_
      refine l_nil ?_
      refine q_then ?_
      refine c_cond rfl (fun h3 => ?_) (fun h3 => ?_)
      · -- h3T
        try simp only [decide_eq_true_eq, decide_eq_false_iff_not, Bool.not_eq_eq_eq_not, Bool.not_true, Bool.not_false, Bool.not_eq_true', Bool.not_eq_false', Int.not_lt, Int.not_le, Bool.or_eq_true, Bool.and_eq_true] at h3
        refine c_seq ?_
        refine c_region ?_
        refine o_assign rfl rfl ?_
        refine l_nil ?_
        refine q_then ?_
        refine c_ret ?_
        refine q_pass_ret ?_
        refine q_block_ret ?_
        refine q_pass_ret ?_
        refine q_pass_ret ?_
        refine q_block_ret ?_
        refine q_pass_ret ?_
        refine q_conv (fun w S => S.tail) ?_
        exact f_ret (r_one rfl rfl) (⟨rfl, rfl⟩) (fun w S => S)
      · -- h3F
        try simp only [decide_eq_true_eq, decide_eq_false_iff_not, Bool.not_eq_eq_eq_not, Bool.not_true, Bool.not_false, Bool.not_eq_true', Bool.not_eq_false', Int.not_lt, Int.not_le, Bool.or_eq_true, Bool.and_eq_true] at h3
        refine c_skip ?_
        refine q_then ?_
        refine c_seq ?_
        refine c_region ?_
        refine o_move rfl rfl ?_
        refine o_call rfl cal24 rfl (frame8 (rds_old (hg x29 (List.mem_of_getElem? hx29)).rd) (by omega)) ?_
        rintro _ _ ⟨out36, a36, c36, hout36, rfl, rfl⟩
        have hfr : out36 = frameB x29.xs := by rw [hout36, frR_yes (by omega)]
        have hfl := frameB_len x29.xs
        have hsuc := allF_succ (i := i) hx29
        rw [← hfr] at hfl hsuc
        refine o_move rfl rfl ?_
        refine o_extract rfl rfl rfl ?_
        refine o_extract rfl rfl rfl ?_
        refine o_assign rfl rfl ?_
        refine o_assign rfl rfl ?_
        refine l_nil ?_
        refine q_then ?_
        refine c_region ?_
        refine o_move rfl rfl ?_
        refine o_move rfl rfl ?_
        refine l_f1 ?_
        refine o_append e8_ok rfl rfl rfl Try.underlying25 (rds_own e8_ok 1 rfl) (by show (_ + _) * 1 ≤ _; (try simp only [List.length_append, List.length_cons, List.length_nil]); omega) (by (try simp only [List.length_append, List.length_cons, List.length_nil]); omega) fun a41 c41 => ?_
        refine l_f1 ?_
        refine l_drop ?_
        refine o_assign rfl rfl ?_
        refine l_nil ?_
        refine q_block ?_
        refine q_then ?_
        refine c_region ?_
        refine o_bin rfl rfl rfl (b_add (wrap_i64 (by omega) (by omega))) ?_
        refine o_move rfl rfl ?_
        refine l_nil ?_
        exact q_round (i + 1, a41, c41) (by exact ⟨by omega, small_next hsm hx29 (by omega), by dsimp only; rw [hsuc, List.length_append]; omega⟩) (by (try dsimp only); omega) ⟨(by first | rfl | exact vint (by omega)), (by first | rfl | exact vint (by omega)), (by rw [hsuc]; rfl), (by first | rfl | exact vint (by omega)), (by first | rfl | exact vint (by omega)), (by first | rfl | exact vint (by omega)), trivial⟩ (fun w S => by rw [hsuc]; exact S)
    · -- h2F
      try simp only [decide_eq_true_eq, decide_eq_false_iff_not, Bool.not_eq_eq_eq_not, Bool.not_true, Bool.not_false, Bool.not_eq_true', Bool.not_eq_false', Int.not_lt, Int.not_le, Bool.or_eq_true, Bool.and_eq_true] at h2
      refine c_exit ?_
      refine q_pass_exit ?_
      refine q_pass_exit ?_
      refine q_hit ?_
      refine q_then ?_
      refine c_seq ?_
      refine c_region ?_
      refine o_assign rfl rfl ?_
      refine l_nil ?_
      refine q_then ?_
      refine c_seq ?_
      refine c_seq ?_
      refine c_region ?_
      refine o_move rfl rfl ?_
      refine o_len rfl rfl Try.underlying59 ?_
      refine o_move rfl rfl ?_
      refine l_nil ?_
      refine q_then ?_
      refine c_block ?_
      obtain rfl : i = ls.length := by omega
      refine c_loop (α := Nat) (fun z => [(1, .int .i64 k), (5, .slice a1 (allF ls ls.length).length c1), (10, .int .i64 ((allF ls z).length : Int)), (43, .slice a ls.length c), (44, .int .i64 (ls.length : Int)), (45, .int .i64 (z : Int))]) (fun z => row e8.T e8.sz a1 ((allF ls ls.length)).length c1 (flat e8 (allF ls ls.length)) :: F) (fun z => z ≤ ls.length) (fun z => ls.length - z) (0) (by exact Nat.zero_le _) ⟨(by first | rfl | exact vint (by omega)), (by first | rfl | exact vint (by omega)), (by rfl), (by first | rfl | exact vint (by omega)), (by first | rfl | exact vint (by omega)), (by first | rfl | exact vint (by omega)), trivial⟩ (fun w S => S) ?_
      rintro i hi2
      try dsimp only at *
      have hsm' := hsm
      refine c_seq ?_
      refine c_region ?_
      refine o_bin rfl rfl rfl b_lss ?_
      refine l_nil ?_
      refine q_then ?_
      refine c_seq ?_
      refine c_cond rfl (fun h4 => ?_) (fun h4 => ?_)
      · -- h4T
        try simp only [decide_eq_true_eq, decide_eq_false_iff_not, Bool.not_eq_eq_eq_not, Bool.not_true, Bool.not_false, Bool.not_eq_true', Bool.not_eq_false', Int.not_lt, Int.not_le, Bool.or_eq_true, Bool.and_eq_true] at h4
        refine c_skip ?_
        refine q_then ?_
        refine c_seq ?_
        refine c_block ?_
        refine c_seq ?_
        refine c_region ?_
        refine o_index eBs_ok rfl rfl rfl Try.underlying59 (by omega) (by omega) (rds_old hs) fun ad47 ead47 => ?_
        obtain ⟨x47, hx47⟩ : ∃ x, (ls)[((i : Int)).toNat]? = some x := ⟨_, List.getElem?_eq_getElem (by omega)⟩
        obtain ⟨rr, hrr⟩ := allF_split (i := i) hx47
        have hlx := hsm i x47 (by omega) hx47
        have hfl := frameB_len x47.xs
        have hlA := congrArg List.length hrr
        rw [List.length_append, List.length_append] at hlA
        have hsuc := congrArg List.length (allF_succ (i := i) hx47)
        rw [List.length_append] at hsuc
        refine o_load1 rfl rfl Try.underlying25 rfl (rd_sl0 eBs_ok ead47 (rds_old hs) hx47 rfl) ?_
        refine o_assign rfl rfl ?_
        refine l_nil ?_
        refine q_then ?_
        refine c_seq ?_
        refine c_fact (row_cap 0 rfl) ?_
        intro hcapA
        refine c_region ?_
        refine o_move rfl rfl ?_
        refine o_move rfl rfl ?_
        refine o_cut (l' := ((allF ls i).length)) (h' := (((allF ls ls.length)).length)) (m := c1) rfl rfl Try.underlying25 ti5 (.inl ⟨rfl, rfl⟩) (.inl ⟨rfl, rfl, rfl⟩) (.inr ⟨_, _, rfl, icast rfl (by omega), (by omega)⟩) ?_
        obtain ⟨ys52, ay52, cut52, hys52, hlys52, eay52⟩ : ∃ ys_ ay_, (∀ {L : List Res}, RdS W L e8 a1 (allF ls ls.length) → RdS W L e8 ay_ ys_) ∧ ys_ = sub (allF ls ls.length) ((allF ls i).length) (((allF ls ls.length)).length) ∧ ys_.length = (((allF ls ls.length)).length) - ((allF ls i).length) ∧ cutA a1 c1 ((allF ls i).length) 1 = ay_ := ⟨_, _, fun h => rds_cut e8_ok h _ _ _ (by omega), rfl, sub_len (by omega), rfl⟩
        refine l_eq (t := 52) (v' := .slice ay52 ys52.length (c1 - ((allF ls i).length))) rfl (by rw [eay52, hlys52]) ?_
        have hun : unR ys52 = (x47.xs, 6 + x47.xs.length, 0) := by rw [hys52, hrr, sub_behind_all, unR_frame (by omega)]
        refine o_call rfl cal26 rfl (unframe8 (cut52 (rds_own e8_ok 0 rfl)) (by omega) (by omega)) ?_
        rintro _ _ ⟨again53, aa53, ca53, body53, ay53, cy53, hbody53, cut53, rfl, rfl⟩
        refine o_move rfl rfl ?_
        refine o_extract rfl rfl rfl ?_
        refine o_extract rfl rfl rfl ?_
        refine l_eq (t := 55) (v' := .int .i64 ((6 + x47.xs.length : Nat) : Int)) rfl (by rw [hun]; rfl) ?_
        refine o_extract rfl rfl rfl ?_
        refine l_eq (t := 56) (v' := .int .i64 0) rfl (by rw [hun]; rfl) ?_
        refine o_assign rfl rfl ?_
        refine o_assign rfl rfl ?_
        refine o_assign rfl rfl ?_
        refine l_nil ?_
        refine q_then ?_
        refine c_seq ?_
        refine c_seq ?_
        refine c_region ?_
        refine o_move rfl rfl ?_
        refine o_bin rfl rfl rfl b_neq ?_
        refine l_eq (t := 58) (v' := .bool false) rfl (show _ = Value.bool false from by rfl) ?_
        refine o_move rfl rfl ?_
        refine o_yes rfl rfl rfl ?_
        refine o_move rfl rfl ?_
        refine o_yes rfl rfl rfl ?_
        refine o_bytesStr (e := e8) rfl rfl rfl Try.underlying25 Try.underlying5 Try.underlying9 (cut53 (rds_own e8_ok 0 rfl)) ?_
        refine o_yes rfl rfl rfl ?_
        refine o_move rfl rfl ?_
        refine o_yes rfl rfl rfl ?_
        refine o_bytesStr (e := e8) rfl rfl rfl Try.underlying25 Try.underlying5 Try.underlying9 (rds_old (hg x47 (List.mem_of_getElem? hx47)).rd) ?_
        refine o_yes rfl rfl rfl ?_
        refine o_bin rfl rfl rfl b_sneq ?_
        refine l_eq (t := 64) (v' := .bool false) rfl (show _ = Value.bool false from by rw [hbody53, hun]; simp) ?_
        refine o_pick_false rfl rfl rfl ?_
        refine o_move rfl rfl ?_
        refine o_yes rfl rfl rfl ?_
        refine o_move rfl rfl ?_
        refine o_yes rfl rfl rfl ?_
        refine o_move rfl rfl ?_
        refine o_yes rfl rfl rfl ?_
        refine o_len rfl rfl Try.underlying25 ?_
        refine o_yes rfl rfl rfl ?_
        refine o_bin rfl rfl rfl (b_add (wrap_i64 (by omega) (by omega))) ?_
        refine o_yes rfl rfl rfl ?_
        refine o_bin rfl rfl rfl b_neq ?_
        refine l_eq (t := 71) (v' := .bool false) rfl (show _ = Value.bool false from by rw [decide_eq_true (by omega)]; rfl) ?_
        refine o_pick_false rfl rfl rfl ?_
        refine l_nil ?_
        refine q_then ?_
        refine c_false rfl ?_
        refine c_skip ?_
        refine q_then ?_
        refine c_seq ?_
        refine c_region ?_
        refine o_move rfl rfl ?_
        refine o_move rfl rfl ?_
        refine o_move rfl rfl ?_
        refine o_move rfl rfl ?_
        refine o_bin rfl rfl rfl (b_and rfl) ?_
        obtain ⟨q78, hq78, eq78⟩ := and_mask k 65535 (by omega)
        refine l_eq (t := 78) (v' := .int .i64 (q78 : Int)) rfl (by first | exact congrArg _ eq78) ?_
        have hmq := Nat.mod_lt q78 (show 0 < 6 + x47.xs.length by omega)
        refine o_move rfl rfl ?_
        refine o_bin rfl rfl rfl (b_rem (by omega) tmodN) ?_
        refine o_bin rfl rfl rfl (b_add (wrap_i64 (by omega) (by omega))) ?_
        refine o_cut (l' := ((allF ls i).length)) (h' := ((allF ls i).length + q78 % (6 + x47.xs.length))) (m := c1) rfl rfl Try.underlying25 ti5 (.inl ⟨rfl, rfl⟩) (.inr ⟨_, _, rfl, icast rfl (by omega), (by omega)⟩) (.inr ⟨_, _, rfl, icast rfl (by omega), (by omega)⟩) ?_
        obtain ⟨ys82, ay82, cut82, hys82, hlys82, eay82⟩ : ∃ ys_ ay_, (∀ {L : List Res}, RdS W L e8 a1 (allF ls ls.length) → RdS W L e8 ay_ ys_) ∧ ys_ = sub (allF ls ls.length) ((allF ls i).length) ((allF ls i).length + q78 % (6 + x47.xs.length)) ∧ ys_.length = ((allF ls i).length + q78 % (6 + x47.xs.length)) - ((allF ls i).length) ∧ cutA a1 c1 ((allF ls i).length) 1 = ay_ := ⟨_, _, fun h => rds_cut e8_ok h _ _ _ (by omega), rfl, sub_len (by omega), rfl⟩
        refine l_eq (t := 82) (v' := .slice ay82 ys82.length (c1 - ((allF ls i).length))) rfl (by rw [eay82, hlys82]) ?_
        have hun2 : (unR ys82).2.2 = 30 ∨ (unR ys82).2.2 = 31 := by rw [hys82, hrr, sub_behind]; exact unR_part (by omega) (by omega) rr
        refine o_call rfl cal26 rfl (unframe8 (cut82 (rds_own e8_ok 1 rfl)) (by omega) (by omega)) ?_
        rintro _ _ ⟨again83, aa83, ca83, body83, ay83, cy83, hbody83, cut83, rfl, rfl⟩
        refine o_move rfl rfl ?_
        refine o_extract rfl rfl rfl ?_
        refine o_extract rfl rfl rfl ?_
        refine o_extract rfl rfl rfl ?_
        refine o_assign rfl rfl ?_
        refine o_assign rfl rfl ?_
        refine o_assign rfl rfl ?_
        refine l_nil ?_
        refine q_then ?_
        refine c_seq ?_
        refine c_seq ?_
        refine c_region ?_
        refine o_move rfl rfl ?_
        refine o_bin rfl rfl rfl b_neq ?_
        refine o_move rfl rfl ?_
        refine l_split (t := 89) rfl (fun h5 => ?_) (fun h5 => ?_)
        · -- h5T
          try simp only [decide_eq_true_eq, decide_eq_false_iff_not, Bool.not_eq_eq_eq_not, Bool.not_true, Bool.not_false, Bool.not_eq_true', Bool.not_eq_false', Int.not_lt, Int.not_le, Bool.or_eq_true, Bool.and_eq_true] at h5
          refine o_yes rfl rfl rfl ?_
          refine o_move rfl rfl ?_
          refine o_yes rfl rfl rfl ?_
          refine o_bin rfl rfl rfl b_neq ?_
          refine l_eq (t := 91) (v' := .bool false) rfl (show _ = Value.bool false from by rw [decide_eq_true (by omega)]; rfl) ?_
          refine o_pick_true rfl rfl rfl ?_
          refine l_nil ?_
          refine q_then ?_
          refine c_false rfl ?_
          refine c_skip ?_
          refine q_then ?_
          refine c_region ?_
          refine o_move rfl rfl ?_
          refine o_move rfl rfl ?_
          refine o_bin rfl rfl rfl (b_add (wrap_i64 (by omega) (by omega))) ?_
          refine o_assign rfl rfl ?_
          refine l_nil ?_
          refine q_block ?_
          refine q_then ?_
          refine c_region ?_
          refine o_bin rfl rfl rfl (b_add (wrap_i64 (by omega) (by omega))) ?_
          refine o_move rfl rfl ?_
          refine l_nil ?_
          refine q_conv (fun w S => S.tail) ?_
          refine q_conv (fun w S => S.tail) ?_
          exact q_round (i + 1) (by (try dsimp only); omega) (by (try dsimp only); omega) ⟨(by first | rfl | exact vint (by omega)), (by first | rfl | exact vint (by omega)), (vint (by omega)), (by first | rfl | exact vint (by omega)), (by first | rfl | exact vint (by omega)), (by first | rfl | exact vint (by omega)), trivial⟩ (fun w S => S)
        · -- h5F
          try simp only [decide_eq_true_eq, decide_eq_false_iff_not, Bool.not_eq_eq_eq_not, Bool.not_true, Bool.not_false, Bool.not_eq_true', Bool.not_eq_false', Int.not_lt, Int.not_le, Bool.or_eq_true, Bool.and_eq_true] at h5
          refine o_no rfl rfl rfl rfl ?_
          refine o_no rfl rfl rfl rfl ?_
          refine o_pick_false rfl rfl rfl ?_
          refine l_nil ?_
          refine q_then ?_
          refine c_false rfl ?_
          refine c_skip ?_
          refine q_then ?_
          refine c_region ?_
          refine o_move rfl rfl ?_
          refine o_move rfl rfl ?_
          refine o_bin rfl rfl rfl (b_add (wrap_i64 (by omega) (by omega))) ?_
          refine o_assign rfl rfl ?_
          refine l_nil ?_
          refine q_block ?_
          refine q_then ?_
          refine c_region ?_
          refine o_bin rfl rfl rfl (b_add (wrap_i64 (by omega) (by omega))) ?_
          refine o_move rfl rfl ?_
          refine l_nil ?_
          refine q_conv (fun w S => S.tail) ?_
          refine q_conv (fun w S => S.tail) ?_
          exact q_round (i + 1) (by (try dsimp only); omega) (by (try dsimp only); omega) ⟨(by first | rfl | exact vint (by omega)), (by first | rfl | exact vint (by omega)), (vint (by omega)), (by first | rfl | exact vint (by omega)), (by first | rfl | exact vint (by omega)), (by first | rfl | exact vint (by omega)), trivial⟩ (fun w S => S)
      · -- h4F
        try simp only [decide_eq_true_eq, decide_eq_false_iff_not, Bool.not_eq_eq_eq_not, Bool.not_true, Bool.not_false, Bool.not_eq_true', Bool.not_eq_false', Int.not_lt, Int.not_le, Bool.or_eq_true, Bool.and_eq_true] at h4
        obtain rfl : i = ls.length := by omega
        refine c_exit ?_
        refine q_pass_exit ?_
        refine q_pass_exit ?_
        refine q_hit ?_
        refine q_then ?_
        refine c_seq ?_
        refine c_region ?_
        refine o_move rfl rfl ?_
        refine o_move rfl rfl ?_
        refine o_len rfl rfl Try.underlying25 ?_
        refine o_bin rfl rfl rfl b_eql ?_
        refine l_eq (t := 100) (v' := .bool true) rfl (show _ = Value.bool true from by rw [decide_eq_true (by omega)]) ?_
        refine o_assign rfl rfl ?_
        refine l_nil ?_
        refine q_then ?_
        refine c_ret ?_
        refine q_conv (fun w S => S.tail) ?_
        exact f_ret (r_one rfl rfl) (⟨rfl, rfl⟩) (fun w S => S)

end Go.Proofs.Ytkohbgblnkelnaa
