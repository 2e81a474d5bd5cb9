/- Printed by eng2.py out of 09a/spec.py. -/
import Derived.Test.YtlblipkcbmcfkaaMod
set_option linter.unusedVariables false
set_option linter.unusedSimpArgs false
set_option maxRecDepth 10000
namespace Go.Proofs.Ytlblipkcbmcfkaa
open Go.RowKit Classical
theorem notin_on {xs : List ByteArray} {key x : ByteArray} {i : Nat} (h : ∀ j x, j < i → xs[j]? = some x → x ≠ key) (hx : xs[i]? = some x) (hn : ¬ x = key) : ∀ j x, j < i + 1 → xs[j]? = some x → x ≠ key := fun j y hj hy => by
  by_cases hji : j < i
  · exact h j y hji hy
  · obtain rfl : j = i := by omega
    rw [hx] at hy; cases hy; exact hn
theorem notin_all {xs : List ByteArray} {key : ByteArray} {i : Nat} (h : ∀ j x, j < i → xs[j]? = some x → x ≠ key) (hi : xs.length ≤ i) : ¬ key ∈ xs := fun hm => by
  obtain ⟨j, hj, rfl⟩ := List.mem_iff_getElem.1 hm
  exact h j _ (by omega) (List.getElem?_eq_getElem hj) rfl
theorem rises_on' {xs : List ByteArray} {i : Nat} {x y : ByteArray} (hi : 1 ≤ i) (h : Rises xs i) (hx : xs[((i : Int) - 1).toNat]? = some x) (hy : xs[((i : Int)).toNat]? = some y) (h1 : slt x y = true) : Rises xs (i + 1) := by
  obtain ⟨k, rfl⟩ : ∃ k, i = k + 1 := ⟨i - 1, by omega⟩
  rw [show (((k + 1 : Nat) : Int) - 1).toNat = k by omega] at hx
  rw [show (((k + 1 : Nat) : Int)).toNat = k + 1 by omega] at hy
  exact rises_on h hx hy h1
theorem rises_not {xs : List ByteArray} {i : Nat} {x y : ByteArray} (hi : 1 ≤ i) (hx : xs[((i : Int) - 1).toNat]? = some x) (hy : xs[((i : Int)).toNat]? = some y) (h1 : slt x y = false) : ¬ Rises xs xs.length := fun h => by
  obtain ⟨k, rfl⟩ : ∃ k, i = k + 1 := ⟨i - 1, by omega⟩
  rw [show (((k + 1 : Nat) : Int) - 1).toNat = k by omega] at hx
  rw [show (((k + 1 : Nat) : Int)).toNat = k + 1 by omega] at hy
  obtain ⟨hk, _⟩ := List.getElem?_eq_some_iff.1 hy
  rw [h k x y hk hx hy] at h1; cases h1
theorem in_ {W : World} {F : List Res} {key : ByteArray} {xs : List ByteArray} {a : Option Addr} {c : Nat} (hs : RdS W F e_S a xs) (hn : xs.length ≤ 9223372036854775807) : CS Try.prog 49 #[.slice a (xs).length c, .string key] W (F) (fun r L' => r = .bool (decide (key ∈ xs)) ∧ F = L') := by
 refine f_door (l0 := [(0, .slice a (xs).length c), (1, .string key)]) Try.func49 Try.ntmps49 rfl rfl rfl ?_
 refine c_seq ?_
 refine c_region ?_
 refine o_assign rfl rfl ?_
 refine l_nil ?_
 refine q_then ?_
 refine c_seq ?_
 refine c_seq ?_
 refine c_region ?_
 refine o_assign rfl rfl ?_
 refine l_nil ?_
 refine q_then ?_
 refine c_block ?_
 refine c_loop (α := Nat) (fun z => [(0, .slice a (xs).length c), (1, .string key), (5, .int .i64 (z : Int))]) (fun z => F) (fun z => z ≤ xs.length ∧ ∀ j x, j < z → xs[j]? = some x → x ≠ key) (fun z => xs.length - z) (0) (by exact ⟨Nat.zero_le _, fun j x h => absurd h (by omega)⟩) ⟨(by first | rfl | exact vint (by omega)), (by first | rfl | exact vint (by omega)), (by first | rfl | exact vint (by omega)), trivial⟩ (fun w S => S) ?_
 rintro i ⟨hi, hno⟩
 try dsimp only at *
 refine c_seq ?_
 refine c_seq ?_
 refine c_region ?_
 refine o_move rfl rfl ?_
 refine o_move rfl rfl ?_
 refine o_len rfl rfl Try.underlying27 ?_
 refine o_bin rfl rfl rfl b_lss ?_
 refine l_nil ?_
 refine q_then ?_
 refine c_cond rfl (fun h1 => ?_) (fun h1 => ?_)
 · -- h1T
  have h1b := h1
  try simp only [decide_eq_true_eq] at h1
  refine c_skip ?_
  refine q_then ?_
  refine c_seq ?_
  refine c_block ?_
  refine c_seq ?_
  refine c_region ?_
  refine o_move rfl rfl ?_
  refine o_move rfl rfl ?_
  refine o_index e_S_ok rfl rfl rfl Try.underlying27 (by omega) (by omega) hs fun ad14 ead14 => ?_
  obtain ⟨x14, hx14⟩ : ∃ x, (xs)[((i : Int)).toNat]? = some x := ⟨_, List.getElem?_eq_getElem (by omega)⟩
  refine o_load1 rfl rfl Try.underlying9 rfl (rd_sl0 e_S_ok ead14 hs hx14 rfl) ?_
  refine o_move rfl rfl ?_
  refine o_bin rfl rfl rfl b_seql ?_
  refine l_nil ?_
  refine q_then ?_
  refine c_cond rfl (fun h2 => ?_) (fun h2 => ?_)
  · -- h2T
   have h2b := h2
   try simp only [decide_eq_true_eq] at h2
   refine c_seq ?_
   refine c_region ?_
   refine o_assign rfl rfl ?_
   refine l_nil ?_
   refine q_then ?_
   refine c_ret ?_
   refine q_block_ret ?_
   refine q_pass_ret ?_
   refine q_pass_ret ?_
   refine q_block_ret ?_
   refine q_pass_ret ?_
   exact f_ret (r_one rfl rfl) (⟨by rw [decide_eq_true (by subst h2; exact List.mem_of_getElem? hx14)], rfl⟩) (fun w S => S)
  · -- h2F
   have h2b := h2
   try simp only [decide_eq_false_iff_not, Int.not_lt, Int.not_le] at h2
   have hne : ¬ x14 = key := h2
   refine c_skip ?_
   refine q_block ?_
   refine q_then ?_
   refine c_region ?_
   refine o_move rfl rfl ?_
   refine o_bin rfl rfl rfl (b_add (wrap_i64 (by omega) (by omega))) ?_
   refine o_assign rfl rfl ?_
   refine l_nil ?_
   exact q_round (i + 1) (by exact ⟨by omega, notin_on hno hx14 hne⟩) (by (try dsimp only); omega) ⟨(by first | rfl | exact vint (by omega)), (by first | rfl | exact vint (by omega)), (by first | rfl | exact vint (by omega)), trivial⟩ (fun w S => S)
 · -- h1F
  have h1b := h1
  try simp only [decide_eq_false_iff_not, Int.not_lt, Int.not_le] at h1
  refine c_exit ?_
  refine q_pass_exit ?_
  refine q_pass_exit ?_
  refine q_hit ?_
  refine q_then ?_
  refine c_seq ?_
  refine c_region ?_
  refine o_assign rfl rfl ?_
  refine l_nil ?_
  refine q_then ?_
  refine c_ret ?_
  exact f_ret (r_one rfl rfl) (⟨by rw [decide_eq_false (notin_all hno (by omega))], rfl⟩) (fun w S => S)

theorem index_ {W : World} {F : List Res} {key : ByteArray} {xs : List ByteArray} {a : Option Addr} {c : Nat} (hs : RdS W F e_S a xs) (hn : xs.length ≤ 9223372036854775807) : CS Try.prog 101 #[.slice a (xs).length c, .string key] W (F) (fun r L' => ∃ n : Int, (0 ≤ n ↔ key ∈ xs) ∧ r = .int .i64 n ∧ F = L') := by
 refine f_door (l0 := [(0, .slice a (xs).length c), (1, .string key)]) Try.func101 Try.ntmps101 rfl rfl rfl ?_
 refine c_seq ?_
 refine c_region ?_
 refine o_assign rfl rfl ?_
 refine l_nil ?_
 refine q_then ?_
 refine c_seq ?_
 refine c_seq ?_
 refine c_region ?_
 refine o_move rfl rfl ?_
 refine o_len rfl rfl Try.underlying27 ?_
 refine o_move rfl rfl ?_
 refine l_nil ?_
 refine q_then ?_
 refine c_block ?_
 refine c_loop (α := Nat) (fun z => [(0, .slice a (xs).length c), (1, .string key), (7, .int .i64 ((xs).length : Int)), (8, .int .i64 (z : Int))]) (fun z => F) (fun z => z ≤ xs.length ∧ ∀ j x, j < z → xs[j]? = some x → x ≠ key) (fun z => xs.length - z) (0) (by exact ⟨Nat.zero_le _, fun j x h => absurd h (by omega)⟩) ⟨(by first | rfl | exact vint (by omega)), (by first | rfl | exact vint (by omega)), (by first | rfl | exact vint (by omega)), (by first | rfl | exact vint (by omega)), trivial⟩ (fun w S => S) ?_
 rintro i ⟨hi, hno⟩
 try dsimp only at *
 refine c_seq ?_
 refine c_region ?_
 refine o_bin rfl rfl rfl b_lss ?_
 refine l_nil ?_
 refine q_then ?_
 refine c_seq ?_
 refine c_cond rfl (fun h1 => ?_) (fun h1 => ?_)
 · -- h1T
  have h1b := h1
  try simp only [decide_eq_true_eq] at h1
  refine c_skip ?_
  refine q_then ?_
  refine c_seq ?_
  refine c_block ?_
  refine c_seq ?_
  refine c_region ?_
  refine o_move rfl rfl ?_
  refine o_assign rfl rfl ?_
  refine l_nil ?_
  refine q_then ?_
  refine c_seq ?_
  refine c_region ?_
  refine o_move rfl rfl ?_
  refine o_move rfl rfl ?_
  refine o_move rfl rfl ?_
  refine o_index e_S_ok rfl rfl rfl Try.underlying27 (by omega) (by omega) hs fun ad14 ead14 => ?_
  obtain ⟨x14, hx14⟩ : ∃ x, (xs)[((i : Int)).toNat]? = some x := ⟨_, List.getElem?_eq_getElem (by omega)⟩
  refine o_load1 rfl rfl Try.underlying9 rfl (rd_sl0 e_S_ok ead14 hs hx14 rfl) ?_
  refine o_bin rfl rfl rfl b_seql ?_
  refine l_nil ?_
  refine q_then ?_
  refine c_cond rfl (fun h2 => ?_) (fun h2 => ?_)
  · -- h2T
   have h2b := h2
   try simp only [decide_eq_true_eq] at h2
   refine c_seq ?_
   refine c_region ?_
   refine o_move rfl rfl ?_
   refine o_assign rfl rfl ?_
   refine l_nil ?_
   refine q_then ?_
   refine c_ret ?_
   refine q_block_ret ?_
   refine q_pass_ret ?_
   refine q_pass_ret ?_
   refine q_block_ret ?_
   refine q_pass_ret ?_
   exact f_ret (r_one rfl rfl) (⟨(i : Int), ⟨fun _ => by subst h2; exact List.mem_of_getElem? hx14, fun _ => by omega⟩, rfl, rfl⟩) (fun w S => S)
  · -- h2F
   have h2b := h2
   try simp only [decide_eq_false_iff_not, Int.not_lt, Int.not_le] at h2
   have hne : ¬ x14 = key := fun h9 => h2 h9.symm
   refine c_skip ?_
   refine q_block ?_
   refine q_then ?_
   refine c_region ?_
   refine o_bin rfl rfl rfl (b_add (wrap_i64 (by omega) (by omega))) ?_
   refine o_move rfl rfl ?_
   refine l_nil ?_
   exact q_round (i + 1) (by exact ⟨by omega, notin_on hno hx14 hne⟩) (by (try dsimp only); omega) ⟨(by first | rfl | exact vint (by omega)), (by first | rfl | exact vint (by omega)), (by first | rfl | exact vint (by omega)), (by first | rfl | exact vint (by omega)), trivial⟩ (fun w S => S)
 · -- h1F
  have h1b := h1
  try simp only [decide_eq_false_iff_not, Int.not_lt, Int.not_le] at h1
  refine c_exit ?_
  refine q_pass_exit ?_
  refine q_pass_exit ?_
  refine q_hit ?_
  refine q_then ?_
  refine c_seq ?_
  refine c_region ?_
  refine o_assign rfl rfl ?_
  refine l_nil ?_
  refine q_then ?_
  refine c_ret ?_
  exact f_ret (r_one rfl rfl) (⟨-1, ⟨fun h9 => absurd h9 (by decide), fun h9 => absurd h9 (notin_all hno (by omega))⟩, rfl, rfl⟩) (fun w S => S)

theorem contains_ {W : World} {F : List Res} {key : ByteArray} {xs : List ByteArray} {a : Option Addr} {c : Nat} (hs : RdS W F e_S a xs) (hn : xs.length ≤ 9223372036854775807) : CS Try.prog 81 #[.slice a (xs).length c, .string key] W (F) (fun r L' => r = .bool (decide (key ∈ xs)) ∧ F = L') := by
 refine f_door (l0 := [(0, .slice a (xs).length c), (1, .string key)]) Try.func81 Try.ntmps81 rfl rfl rfl ?_
 refine c_seq ?_
 refine c_region ?_
 refine o_assign rfl rfl ?_
 refine l_nil ?_
 refine q_then ?_
 refine c_seq ?_
 refine c_region ?_
 refine o_move rfl rfl ?_
 refine o_move rfl rfl ?_
 refine o_call rfl cal101 rfl (index_ (key := key) hs (by omega)) ?_
 rintro _ _ ⟨n7, hn7, rfl, rfl⟩
 refine o_bin rfl rfl rfl b_geq ?_
 refine o_assign rfl rfl ?_
 refine l_nil ?_
 refine q_then ?_
 refine c_ret ?_
 exact f_ret (r_one rfl rfl) (⟨by rw [decide_eq_decide.2 hn7], rfl⟩) (fun w S => S)

theorem rising_ {W : World} {F : List Res} {xs : List ByteArray} {a : Option Addr} {c : Nat} (hs : RdS W F e_S a xs) (hn : xs.length ≤ 9223372036854775807) : CS Try.prog 48 #[.slice a (xs).length c] W (F) (fun r L' => r = .bool (decide (Rises xs xs.length)) ∧ F = L') := by
 refine f_door (l0 := [(0, .slice a (xs).length c)]) Try.func48 Try.ntmps48 rfl rfl rfl ?_
 refine c_seq ?_
 refine c_region ?_
 refine o_assign rfl rfl ?_
 refine l_nil ?_
 refine q_then ?_
 refine c_seq ?_
 refine c_seq ?_
 refine c_region ?_
 refine o_assign rfl rfl ?_
 refine l_nil ?_
 refine q_then ?_
 refine c_block ?_
 refine c_loop (α := Nat) (fun z => [(0, .slice a (xs).length c), (3, .int .i64 (z : Int))]) (fun z => F) (fun z => 1 ≤ z ∧ Rises xs z) (fun z => xs.length - z) (1) (by exact ⟨Nat.le_refl _, rises_0 (Nat.le_refl _)⟩) ⟨(by first | rfl | exact vint (by omega)), (by first | rfl | exact vint (by omega)), trivial⟩ (fun w S => S) ?_
 rintro i ⟨hi, hr⟩
 try dsimp only at *
 refine c_seq ?_
 refine c_seq ?_
 refine c_region ?_
 refine o_move rfl rfl ?_
 refine o_move rfl rfl ?_
 refine o_len rfl rfl Try.underlying27 ?_
 refine o_bin rfl rfl rfl b_lss ?_
 refine l_nil ?_
 refine q_then ?_
 refine c_cond rfl (fun h1 => ?_) (fun h1 => ?_)
 · -- h1T
  have h1b := h1
  try simp only [decide_eq_true_eq] at h1
  refine c_skip ?_
  refine q_then ?_
  refine c_seq ?_
  refine c_block ?_
  refine c_seq ?_
  refine c_fact (p := ∃ ad, a = some ad) (rds_some (e := e_S) (xs := xs) hs (by intro h0; have h00 := congrArg List.length h0; simp only [List.length_nil] at h00; omega)) ?_
  rintro ⟨adx, eadx⟩
  refine c_quiet (by kernel_rfl) (by kernel_rfl) ?_
  refine Qt.o_val rfl (v_move rfl rfl) ?_
  refine Qt.o_val rfl (v_move rfl rfl) ?_
  refine Qt.o_val rfl (v_bin rfl rfl rfl (b_sub (wrap_i64 (by omega) (by omega)))) ?_
  refine Qt.o_val rfl (v_indexK e_S_ok eadx rfl rfl rfl Try.underlying27 (by omega) (by omega)) ?_
  obtain ⟨x13, hx13⟩ : ∃ x, (xs)[(((i : Int) - 1)).toNat]? = some x := ⟨_, List.getElem?_eq_getElem (by omega)⟩
  refine Qt.o_val rfl (v_load1 rfl rfl Try.underlying9 rfl (rd_sl0 e_S_ok eadx hs hx13 rfl)) ?_
  refine Qt.o_val rfl (v_move rfl rfl) ?_
  refine Qt.o_val rfl (v_move rfl rfl) ?_
  refine Qt.o_val rfl (v_indexK e_S_ok eadx rfl rfl rfl Try.underlying27 (by omega) (by omega)) ?_
  obtain ⟨x17, hx17⟩ : ∃ x, (xs)[((i : Int)).toNat]? = some x := ⟨_, List.getElem?_eq_getElem (by omega)⟩
  refine Qt.o_val rfl (v_load1 rfl rfl Try.underlying9 rfl (rd_sl0 e_S_ok eadx hs hx17 rfl)) ?_
  refine Qt.o_val rfl (v_bin rfl rfl rfl b_sgeq) ?_
  refine Qt.l_nil ?_
  refine q_then ?_
  refine c_cond rfl (fun h2 => ?_) (fun h2 => ?_)
  · -- h2T
   have h2b := h2
   try simp only [decide_eq_true_eq, decide_eq_false_iff_not, Bool.not_eq_eq_eq_not, Bool.not_true, Bool.not_false, Bool.not_eq_true', Bool.not_eq_false', Int.not_lt, Int.not_le, Bool.or_eq_true, Bool.and_eq_true] at h2
   refine c_seq ?_
   refine c_region ?_
   refine o_assign rfl rfl ?_
   refine l_nil ?_
   refine q_then ?_
   refine c_ret ?_
   refine q_block_ret ?_
   refine q_pass_ret ?_
   refine q_pass_ret ?_
   refine q_block_ret ?_
   refine q_pass_ret ?_
   exact f_ret (r_one rfl rfl) (⟨by rw [decide_eq_false (rises_not hi hx13 hx17 (by simpa using h2b))], rfl⟩) (fun w S => S)
  · -- h2F
   have h2b := h2
   try simp only [decide_eq_true_eq, decide_eq_false_iff_not, Bool.not_eq_eq_eq_not, Bool.not_true, Bool.not_false, Bool.not_eq_true', Bool.not_eq_false', Int.not_lt, Int.not_le, Bool.or_eq_true, Bool.and_eq_true] at h2
   refine c_skip ?_
   refine q_block ?_
   refine q_then ?_
   refine c_region ?_
   refine o_move rfl rfl ?_
   refine o_bin rfl rfl rfl (b_add (wrap_i64 (by omega) (by omega))) ?_
   refine o_assign rfl rfl ?_
   refine l_nil ?_
   exact q_round (i + 1) (by exact ⟨by omega, rises_on' hi hr hx13 hx17 (by simpa using h2)⟩) (by (try dsimp only); omega) ⟨(by first | rfl | exact vint (by omega)), (by first | rfl | exact vint (by omega)), trivial⟩ (fun w S => S)
 · -- h1F
  have h1b := h1
  try simp only [decide_eq_false_iff_not, Int.not_lt, Int.not_le] at h1
  refine c_exit ?_
  refine q_pass_exit ?_
  refine q_pass_exit ?_
  refine q_hit ?_
  refine q_then ?_
  refine c_seq ?_
  refine c_region ?_
  refine o_assign rfl rfl ?_
  refine l_nil ?_
  refine q_then ?_
  refine c_ret ?_
  exact f_ret (r_one rfl rfl) (⟨by rw [decide_eq_true (show Rises xs xs.length from fun j x y hj => hr j x y (by omega))], rfl⟩) (fun w S => S)

end Go.Proofs.Ytlblipkcbmcfkaa
