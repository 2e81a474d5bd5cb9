/- Printed by eng2.py out of 09a/spec.py. -/
import Derived.Test.YtlblipkcbmcfkaaStrs
set_option linter.unusedVariables false
set_option linter.unusedSimpArgs false
set_option maxRecDepth 10000
namespace Go.Proofs.Ytlblipkcbmcfkaa
open Go.RowKit Classical
theorem ba_pos {x : ByteArray} (h : ¬ x = ByteArray.empty) : 1 ≤ x.size := by
  rcases Nat.eq_zero_or_pos x.size with h1 | h1
  · exact absurd (ByteArray.ext (Array.eq_empty_of_size_eq_zero h1)) h
  · exact h1
theorem keys_no {xs : List ByteArray} {x : ByteArray} {i : Nat} (hx : xs[((i : Int)).toNat]? = some x) (h : x.size = 0 ∨ 16 < x.size) : ¬ KeysOk xs := fun hk => by
  obtain ⟨hj, _⟩ := List.getElem?_eq_some_iff.1 hx
  have := hk.1 _ x hj hx
  omega
theorem rises_first {xs : List ByteArray} {i : Nat} (h : Rises xs i) (hi : i ≤ 0) : Rises xs (i + 1) := rises_0 (by omega)
theorem bnot_dec {p q : Prop} {i : Decidable p} {j : Decidable q} (h : q ↔ ¬ p) : Value.bool (!@decide p i) = Value.bool (@decide q j) := by
  by_cases hp : p
  · rw [decide_eq_true hp, decide_eq_false (fun hq => h.1 hq hp)]; rfl
  · rw [decide_eq_false hp, decide_eq_true (h.2 hp)]; rfl
theorem bdec {p q : Prop} {i : Decidable p} {j : Decidable q} (h : q ↔ p) : Value.bool (@decide p i) = Value.bool (@decide q j) := by
  by_cases hp : p
  · rw [decide_eq_true hp, decide_eq_true (h.2 hp)]
  · rw [decide_eq_false hp, decide_eq_false (fun hq => hp (h.1 hq))]
theorem bnot_b {b : Bool} {p q : Prop} {j : Decidable q} (hb : b = true ↔ p) (h : q ↔ ¬ p) : Value.bool (!b) = Value.bool (@decide q j) := by
  cases b with
  | true => rw [decide_eq_false (fun hq => h.1 hq (hb.1 rfl))]; rfl
  | false => rw [decide_eq_true (h.2 fun hp => absurd (hb.2 hp) (by decide))]; rfl
theorem fv_dec {P : Program} {fv : Value} {args : List Value} {W : World} {L : List Res} {p : Prop} {i : Decidable p} (h : FV P fv args W L (fun r L' => r = .bool (@decide p i) ∧ L = L')) : FV P fv args W L (fun r L' => ∃ b : Bool, (b = true ↔ p) ∧ r = .bool b ∧ L = L') :=
  h.mono fun _ _ h => ⟨_, decide_eq_true_iff, h.1, h.2⟩
theorem vtrue {p : Prop} {i : Decidable p} (h : p) : Value.bool true = Value.bool (@decide p i) := by rw [decide_eq_true h]
theorem vfalse {p : Prop} {i : Decidable p} (h : ¬ p) : Value.bool false = Value.bool (@decide p i) := by rw [decide_eq_false h]
theorem none_on {α : Type} {p : α → Prop} {xs : List α} {x : α} {i : Nat} (h : ∀ j x, j < i → xs[j]? = some x → ¬ p x) (hx : xs[i]? = some x) (hn : ¬ p x) : ∀ j x, j < i + 1 → xs[j]? = some x → ¬ p x := fun j y hj hy => by
  by_cases hji : j < i
  · exact h j y hji hy
  · obtain rfl : j = i := by omega
    rw [hx] at hy; cases hy; exact hn
theorem none_all {α : Type} {p : α → Prop} {xs : List α} {i : Nat} (h : ∀ j x, j < i → xs[j]? = some x → ¬ p x) (hi : xs.length ≤ i) : ¬ ∃ x ∈ xs, p x := fun ⟨x, hm, hp⟩ => by
  obtain ⟨j, hj, rfl⟩ := List.mem_iff_getElem.1 hm
  exact h j _ (by omega) (List.getElem?_eq_getElem hj) hp
theorem rises_ {W : World} {F : List Res} {xs : List ByteArray} {a : Option Addr} {c : Nat} (hs : RdS W F e_S a xs) (hn : xs.length ≤ 9223372036854775807) : CS Try.prog 78 #[.slice a (xs).length c] W (F) (fun r L' => r = .bool (decide (KeysOk xs)) ∧ F = L') := by
 refine f_door (l0 := [(0, .slice a (xs).length c)]) Try.func78 Try.ntmps78 rfl rfl rfl ?_
 refine c_seq ?_
 refine c_region ?_
 refine o_assign rfl rfl ?_
 refine l_nil ?_
 refine q_then ?_
 refine c_seq ?_
 refine c_seq ?_
 refine c_region ?_
 refine o_move rfl rfl ?_
 refine o_len rfl rfl Try.underlying27 ?_
 refine o_move rfl rfl ?_
 refine l_nil ?_
 refine q_then ?_
 refine c_block ?_
 refine c_loop (α := Nat) (fun z => [(0, .slice a (xs).length c), (5, .slice a (xs).length c), (6, .int .i64 ((xs).length : Int)), (7, .int .i64 (z : Int))]) (fun z => F) (fun z => z ≤ xs.length ∧ Short xs z ∧ Rises xs z) (fun z => xs.length - z) (0) (by exact ⟨Nat.zero_le _, short_0, rises_0 (by omega)⟩) ⟨(by first | rfl | exact vint (by omega)), (by first | rfl | exact vint (by omega)), (by first | rfl | exact vint (by omega)), (by first | rfl | exact vint (by omega)), trivial⟩ (fun w S => S) ?_
 rintro i ⟨hi, hsh, hr⟩
 try dsimp only at *
 refine c_seq ?_
 refine c_region ?_
 refine o_bin rfl rfl rfl b_lss ?_
 refine l_nil ?_
 refine q_then ?_
 refine c_seq ?_
 refine c_cond rfl (fun h1 => ?_) (fun h1 => ?_)
 · -- h1T
  have h1b := h1
  try simp only [decide_eq_true_eq] at h1
  refine c_skip ?_
  refine q_then ?_
  refine c_seq ?_
  refine c_block ?_
  refine c_seq ?_
  refine c_region ?_
  refine o_move rfl rfl ?_
  refine o_index e_S_ok rfl rfl rfl Try.underlying27 (by omega) (by omega) hs fun ad10 ead10 => ?_
  obtain ⟨x10, hx10⟩ : ∃ x, (xs)[((i : Int)).toNat]? = some x := ⟨_, List.getElem?_eq_getElem (by omega)⟩
  refine o_load1 rfl rfl Try.underlying9 rfl (rd_sl0 e_S_ok ead10 hs hx10 rfl) ?_
  refine o_assign rfl rfl ?_
  refine o_assign rfl rfl ?_
  refine l_nil ?_
  refine q_then ?_
  refine c_seq ?_
  refine c_region ?_
  refine o_move rfl rfl ?_
  refine o_bin rfl rfl rfl b_seql ?_
  refine o_move rfl rfl ?_
  refine l_split (t := 14) rfl (fun h2 => ?_) (fun h2 => ?_)
  · -- h2T
   have h2b := h2
   try simp only [decide_eq_true_eq] at h2
   refine o_no rfl rfl rfl rfl ?_
   refine o_no rfl rfl rfl rfl ?_
   refine o_no rfl rfl rfl rfl ?_
   refine o_pick_true rfl rfl rfl ?_
   refine o_move rfl rfl ?_
   refine o_no rfl rfl rfl rfl ?_
   refine o_no rfl rfl rfl rfl ?_
   refine o_no rfl rfl rfl rfl ?_
   refine o_no rfl rfl rfl rfl ?_
   refine o_no rfl rfl rfl rfl ?_
   refine o_no rfl rfl rfl rfl ?_
   refine o_no rfl rfl rfl rfl ?_
   refine o_no rfl rfl rfl rfl ?_
   refine o_no rfl rfl rfl rfl ?_
   refine o_no rfl rfl rfl rfl ?_
   refine o_no rfl rfl rfl rfl ?_
   refine o_pick_true rfl rfl rfl ?_
   refine l_nil ?_
   refine q_then ?_
   refine c_true rfl ?_
   refine c_seq ?_
   refine c_region ?_
   refine o_assign rfl rfl ?_
   refine l_nil ?_
   refine q_then ?_
   refine c_ret ?_
   refine q_block_ret ?_
   refine q_pass_ret ?_
   refine q_pass_ret ?_
   refine q_block_ret ?_
   refine q_pass_ret ?_
   exact f_ret (r_one rfl rfl) (⟨by rw [decide_eq_false (keys_no hx10 (.inl (by rw [h2]; rfl)))], rfl⟩) (fun w S => S)
  · -- h2F
   have h2b := h2
   try simp only [decide_eq_false_iff_not, Int.not_lt, Int.not_le] at h2
   refine o_yes rfl rfl rfl ?_
   refine o_move rfl rfl ?_
   refine o_yes rfl rfl rfl ?_
   refine o_lenStr rfl rfl Try.underlying9 ?_
   refine o_yes rfl rfl rfl ?_
   refine o_bin rfl rfl rfl b_gtr ?_
   refine o_pick_false rfl rfl rfl ?_
   refine o_move rfl rfl ?_
   refine l_split (t := 19) rfl (fun h3 => ?_) (fun h3 => ?_)
   · -- h3T
    have h3b := h3
    try simp only [decide_eq_true_eq] at h3
    refine o_no rfl rfl rfl rfl ?_
    refine o_no rfl rfl rfl rfl ?_
    refine o_no rfl rfl rfl rfl ?_
    refine o_no rfl rfl rfl rfl ?_
    refine o_no rfl rfl rfl rfl ?_
    refine o_no rfl rfl rfl rfl ?_
    refine o_no rfl rfl rfl rfl ?_
    refine o_no rfl rfl rfl rfl ?_
    refine o_no rfl rfl rfl rfl ?_
    refine o_no rfl rfl rfl rfl ?_
    refine o_no rfl rfl rfl rfl ?_
    refine o_pick_true rfl rfl rfl ?_
    refine l_nil ?_
    refine q_then ?_
    refine c_true rfl ?_
    refine c_seq ?_
    refine c_region ?_
    refine o_assign rfl rfl ?_
    refine l_nil ?_
    refine q_then ?_
    refine c_ret ?_
    refine q_block_ret ?_
    refine q_pass_ret ?_
    refine q_pass_ret ?_
    refine q_block_ret ?_
    refine q_pass_ret ?_
    exact f_ret (r_one rfl rfl) (⟨by rw [decide_eq_false (keys_no hx10 (.inr (by omega)))], rfl⟩) (fun w S => S)
   · -- h3F
    have h3b := h3
    try simp only [decide_eq_false_iff_not, Int.not_lt, Int.not_le] at h3
    refine o_yes rfl rfl rfl ?_
    refine o_move rfl rfl ?_
    refine o_yes rfl rfl rfl ?_
    refine o_bin rfl rfl rfl b_gtr ?_
    refine o_yes rfl rfl rfl ?_
    refine o_move rfl rfl ?_
    refine l_split (t := 22) rfl (fun h4 => ?_) (fun h4 => ?_)
    · -- h4T
     have h4b := h4
     try simp only [decide_eq_true_eq] at h4
     refine o_yes rfl rfl rfl ?_
     refine o_move rfl rfl ?_
     refine o_yes rfl rfl rfl ?_
     refine o_move rfl rfl ?_
     refine o_yes rfl rfl rfl ?_
     refine o_bin rfl rfl rfl (b_sub (wrap_i64 (by omega) (by omega))) ?_
     refine o_yes rfl rfl rfl ?_
     refine o_indexK e_S_ok ead10 rfl rfl rfl Try.underlying27 (by omega) (by omega) ?_
     obtain ⟨x26, hx26⟩ : ∃ x, (xs)[(((i : Int) - 1)).toNat]? = some x := ⟨_, List.getElem?_eq_getElem (by omega)⟩
     refine o_yes rfl rfl rfl ?_
     refine o_load1 rfl rfl Try.underlying9 rfl (rd_sl0 e_S_ok ead10 hs hx26 rfl) ?_
     refine o_yes rfl rfl rfl ?_
     refine o_move rfl rfl ?_
     refine o_yes rfl rfl rfl ?_
     refine o_bin rfl rfl rfl b_sgeq ?_
     refine o_yes rfl rfl rfl ?_
     refine o_pick_true rfl rfl rfl ?_
     refine o_pick_false rfl rfl rfl ?_
     refine l_nil ?_
     refine q_then ?_
     refine c_cond rfl (fun h5 => ?_) (fun h5 => ?_)
     · -- h5T
      have h5b := h5
      try simp only [decide_eq_true_eq, decide_eq_false_iff_not, Bool.not_eq_eq_eq_not, Bool.not_true, Bool.not_false, Bool.not_eq_true', Bool.not_eq_false', Int.not_lt, Int.not_le, Bool.or_eq_true, Bool.and_eq_true] at h5
      refine c_seq ?_
      refine c_region ?_
      refine o_assign rfl rfl ?_
      refine l_nil ?_
      refine q_then ?_
      refine c_ret ?_
      refine q_block_ret ?_
      refine q_pass_ret ?_
      refine q_pass_ret ?_
      refine q_block_ret ?_
      refine q_pass_ret ?_
      exact f_ret (r_one rfl rfl) (⟨by rw [decide_eq_false (fun hk => rises_not (by omega) hx26 hx10 (by simpa using h5b) hk.2)], rfl⟩) (fun w S => S)
     · -- h5F
      have h5b := h5
      try simp only [decide_eq_true_eq, decide_eq_false_iff_not, Bool.not_eq_eq_eq_not, Bool.not_true, Bool.not_false, Bool.not_eq_true', Bool.not_eq_false', Int.not_lt, Int.not_le, Bool.or_eq_true, Bool.and_eq_true] at h5
      refine c_skip ?_
      refine q_block ?_
      refine q_then ?_
      refine c_region ?_
      refine o_bin rfl rfl rfl (b_add (wrap_i64 (by omega) (by omega))) ?_
      refine o_move rfl rfl ?_
      refine l_nil ?_
      exact q_round (i + 1) (by exact ⟨by omega, short_on hsh hx10 (ba_pos h2) (by omega), rises_on' (by omega) hr hx26 hx10 (by simpa using h5)⟩) (by (try dsimp only); omega) ⟨(by first | rfl | exact vint (by omega)), (by first | rfl | exact vint (by omega)), (by first | rfl | exact vint (by omega)), (by first | rfl | exact vint (by omega)), trivial⟩ (fun w S => S)
    · -- h4F
     have h4b := h4
     try simp only [decide_eq_false_iff_not, Int.not_lt, Int.not_le] at h4
     refine o_no rfl rfl rfl rfl ?_
     refine o_no rfl rfl rfl rfl ?_
     refine o_no rfl rfl rfl rfl ?_
     refine o_no rfl rfl rfl rfl ?_
     refine o_no rfl rfl rfl rfl ?_
     refine o_no rfl rfl rfl rfl ?_
     refine o_no rfl rfl rfl rfl ?_
     refine o_yes rfl rfl rfl ?_
     refine o_pick_false rfl rfl rfl ?_
     refine o_pick_false rfl rfl rfl ?_
     refine l_nil ?_
     refine q_then ?_
     refine c_false rfl ?_
     refine c_skip ?_
     refine q_block ?_
     refine q_then ?_
     refine c_region ?_
     refine o_bin rfl rfl rfl (b_add (wrap_i64 (by omega) (by omega))) ?_
     refine o_move rfl rfl ?_
     refine l_nil ?_
     exact q_round (i + 1) (by exact ⟨by omega, short_on hsh hx10 (ba_pos h2) (by omega), rises_first hr (by omega)⟩) (by (try dsimp only); omega) ⟨(by first | rfl | exact vint (by omega)), (by first | rfl | exact vint (by omega)), (by first | rfl | exact vint (by omega)), (by first | rfl | exact vint (by omega)), trivial⟩ (fun w S => S)
 · -- h1F
  have h1b := h1
  try simp only [decide_eq_false_iff_not, Int.not_lt, Int.not_le] at h1
  refine c_exit ?_
  refine q_pass_exit ?_
  refine q_pass_exit ?_
  refine q_hit ?_
  refine q_then ?_
  refine c_seq ?_
  refine c_region ?_
  refine o_assign rfl rfl ?_
  refine l_nil ?_
  refine q_then ?_
  refine c_ret ?_
  exact f_ret (r_one rfl rfl) (⟨by rw [decide_eq_true (show KeysOk xs from ⟨fun j x hj => hsh j x (by omega), fun j x y hj => hr j x y (by omega)⟩)], rfl⟩) (fun w S => S)

theorem indexFS {W : World} {F : List Res} {xs : List ByteArray} {a : Option Addr} {c : Nat} (hs : RdS W F e_S a xs) (hn : xs.length ≤ 9223372036854775807) {fv : Value} {p : ByteArray → Prop} (hf : ∀ x ∈ xs, FV Try.prog fv [.string x] W F (fun r L' => ∃ b : Bool, (b = true ↔ p x) ∧ r = .bool b ∧ F = L')) : CS Try.prog 100 #[.slice a (xs).length c, fv] W (F) (fun r L' => ∃ n : Int, (0 ≤ n ↔ ∃ x ∈ xs, p x) ∧ r = .int .i64 n ∧ F = L') := by
 refine f_door (l0 := [(0, .slice a (xs).length c), (1, fv)]) Try.func100 Try.ntmps100 rfl rfl rfl ?_
 refine c_seq ?_
 refine c_region ?_
 refine o_assign rfl rfl ?_
 refine l_nil ?_
 refine q_then ?_
 refine c_seq ?_
 refine c_seq ?_
 refine c_region ?_
 refine o_move rfl rfl ?_
 refine o_len rfl rfl Try.underlying27 ?_
 refine o_move rfl rfl ?_
 refine l_nil ?_
 refine q_then ?_
 refine c_block ?_
 refine c_loop (α := Nat) (fun z => [(0, .slice a (xs).length c), (1, fv), (7, .int .i64 ((xs).length : Int)), (8, .int .i64 (z : Int))]) (fun z => F) (fun z => z ≤ xs.length ∧ ∀ j x, j < z → xs[j]? = some x → ¬ p x) (fun z => xs.length - z) (0) (by exact ⟨Nat.zero_le _, fun j x h => absurd h (by omega)⟩) ⟨(by first | rfl | exact vint (by omega)), (by first | rfl | exact vint (by omega)), (by first | rfl | exact vint (by omega)), (by first | rfl | exact vint (by omega)), trivial⟩ (fun w S => S) ?_
 rintro i ⟨hi, hno⟩
 try dsimp only at *
 refine c_seq ?_
 refine c_region ?_
 refine o_bin rfl rfl rfl b_lss ?_
 refine l_nil ?_
 refine q_then ?_
 refine c_seq ?_
 refine c_cond rfl (fun h1 => ?_) (fun h1 => ?_)
 · -- h1T
  have h1b := h1
  try simp only [decide_eq_true_eq] at h1
  refine c_skip ?_
  refine q_then ?_
  refine c_seq ?_
  refine c_block ?_
  refine c_seq ?_
  refine c_region ?_
  refine o_move rfl rfl ?_
  refine o_assign rfl rfl ?_
  refine l_nil ?_
  refine q_then ?_
  refine c_seq ?_
  refine c_region ?_
  refine o_move rfl rfl ?_
  refine o_move rfl rfl ?_
  refine o_move rfl rfl ?_
  refine o_index e_S_ok rfl rfl rfl Try.underlying27 (by omega) (by omega) hs fun ad14 ead14 => ?_
  obtain ⟨x14, hx14⟩ : ∃ x, (xs)[((i : Int)).toNat]? = some x := ⟨_, List.getElem?_eq_getElem (by omega)⟩
  refine o_load1 rfl rfl Try.underlying9 rfl (rd_sl0 e_S_ok ead14 hs hx14 rfl) ?_
  refine o_callV rfl rfl rfl (hf x14 (List.mem_of_getElem? hx14)) ?_
  rintro _ _ ⟨b16, hb16, rfl, rfl⟩
  refine l_nil ?_
  refine q_then ?_
  refine c_cond rfl (fun h2 => ?_) (fun h2 => ?_)
  · -- h2T
   have h2b := h2
   try simp only [decide_eq_true_eq, decide_eq_false_iff_not, Bool.not_eq_eq_eq_not, Bool.not_true, Bool.not_false, Bool.not_eq_true', Bool.not_eq_false', Int.not_lt, Int.not_le, Bool.or_eq_true, Bool.and_eq_true] at h2
   refine c_seq ?_
   refine c_region ?_
   refine o_move rfl rfl ?_
   refine o_assign rfl rfl ?_
   refine l_nil ?_
   refine q_then ?_
   refine c_ret ?_
   refine q_block_ret ?_
   refine q_pass_ret ?_
   refine q_pass_ret ?_
   refine q_block_ret ?_
   refine q_pass_ret ?_
   exact f_ret (r_one rfl rfl) (⟨(i : Int), ⟨fun _ => ⟨x14, List.mem_of_getElem? hx14, hb16.1 h2b⟩, fun _ => by omega⟩, rfl, rfl⟩) (fun w S => S)
  · -- h2F
   have h2b := h2
   try simp only [decide_eq_true_eq, decide_eq_false_iff_not, Bool.not_eq_eq_eq_not, Bool.not_true, Bool.not_false, Bool.not_eq_true', Bool.not_eq_false', Int.not_lt, Int.not_le, Bool.or_eq_true, Bool.and_eq_true] at h2
   refine c_skip ?_
   refine q_block ?_
   refine q_then ?_
   refine c_region ?_
   refine o_bin rfl rfl rfl (b_add (wrap_i64 (by omega) (by omega))) ?_
   refine o_move rfl rfl ?_
   refine l_nil ?_
   exact q_round (i + 1) (by exact ⟨by omega, none_on hno hx14 (fun h9 => by rw [hb16.2 h9] at h2b; cases h2b)⟩) (by (try dsimp only); omega) ⟨(by first | rfl | exact vint (by omega)), (by first | rfl | exact vint (by omega)), (by first | rfl | exact vint (by omega)), (by first | rfl | exact vint (by omega)), trivial⟩ (fun w S => S)
 · -- h1F
  have h1b := h1
  try simp only [decide_eq_false_iff_not, Int.not_lt, Int.not_le] at h1
  refine c_exit ?_
  refine q_pass_exit ?_
  refine q_pass_exit ?_
  refine q_hit ?_
  refine q_then ?_
  refine c_seq ?_
  refine c_region ?_
  refine o_assign rfl rfl ?_
  refine l_nil ?_
  refine q_then ?_
  refine c_ret ?_
  exact f_ret (r_one rfl rfl) (⟨-1, ⟨fun h9 => absurd h9 (by decide), fun h9 => absurd h9 (none_all hno (by omega))⟩, rfl, rfl⟩) (fun w S => S)

theorem containsFS {W : World} {F : List Res} {xs : List ByteArray} {a : Option Addr} {c : Nat} (hs : RdS W F e_S a xs) (hn : xs.length ≤ 9223372036854775807) {fv : Value} {p : ByteArray → Prop} (hf : ∀ x ∈ xs, FV Try.prog fv [.string x] W F (fun r L' => ∃ b : Bool, (b = true ↔ p x) ∧ r = .bool b ∧ F = L')) : CS Try.prog 79 #[.slice a (xs).length c, fv] W (F) (fun r L' => ∃ b : Bool, (b = true ↔ ∃ x ∈ xs, p x) ∧ r = .bool b ∧ F = L') := by
 refine f_door (l0 := [(0, .slice a (xs).length c), (1, fv)]) Try.func79 Try.ntmps79 rfl rfl rfl ?_
 refine c_seq ?_
 refine c_region ?_
 refine o_assign rfl rfl ?_
 refine l_nil ?_
 refine q_then ?_
 refine c_seq ?_
 refine c_region ?_
 refine o_move rfl rfl ?_
 refine o_move rfl rfl ?_
 refine o_call rfl cal100 rfl (indexFS (p := p) hs (by omega) hf) ?_
 rintro _ _ ⟨n7, hn7, rfl, rfl⟩
 refine o_bin rfl rfl rfl b_geq ?_
 refine o_assign rfl rfl ?_
 refine l_nil ?_
 refine q_then ?_
 refine c_ret ?_
 exact f_ret (r_one rfl rfl) (⟨_, by rw [decide_eq_true_iff]; exact hn7, rfl, rfl⟩) (fun w S => S)

theorem indexFO {W : World} {F : List Res} {xs : List Op} {a : Option Addr} {c : Nat} (hs : RdS W F e_Op a xs) (hn : xs.length ≤ 9223372036854775807) {fv : Value} {p : Op → Prop} (hf : ∀ x ∈ xs, FV Try.prog fv [.agg (e_Op.cells x).toArray] W F (fun r L' => ∃ b : Bool, (b = true ↔ p x) ∧ r = .bool b ∧ F = L')) : CS Try.prog 82 #[.slice a (xs).length c, fv] W (F) (fun r L' => ∃ n : Int, (0 ≤ n ↔ ∃ x ∈ xs, p x) ∧ r = .int .i64 n ∧ F = L') := by
 refine f_door (l0 := [(0, .slice a (xs).length c), (1, fv)]) Try.func82 Try.ntmps82 rfl rfl rfl ?_
 refine c_seq ?_
 refine c_region ?_
 refine o_assign rfl rfl ?_
 refine l_nil ?_
 refine q_then ?_
 refine c_seq ?_
 refine c_seq ?_
 refine c_region ?_
 refine o_move rfl rfl ?_
 refine o_len rfl rfl Try.underlying28 ?_
 refine o_move rfl rfl ?_
 refine l_nil ?_
 refine q_then ?_
 refine c_block ?_
 refine c_loop (α := Nat) (fun z => [(0, .slice a (xs).length c), (1, fv), (7, .int .i64 ((xs).length : Int)), (8, .int .i64 (z : Int))]) (fun z => F) (fun z => z ≤ xs.length ∧ ∀ j x, j < z → xs[j]? = some x → ¬ p x) (fun z => xs.length - z) (0) (by exact ⟨Nat.zero_le _, fun j x h => absurd h (by omega)⟩) ⟨(by first | rfl | exact vint (by omega)), (by first | rfl | exact vint (by omega)), (by first | rfl | exact vint (by omega)), (by first | rfl | exact vint (by omega)), trivial⟩ (fun w S => S) ?_
 rintro i ⟨hi, hno⟩
 try dsimp only at *
 refine c_seq ?_
 refine c_region ?_
 refine o_bin rfl rfl rfl b_lss ?_
 refine l_nil ?_
 refine q_then ?_
 refine c_seq ?_
 refine c_cond rfl (fun h1 => ?_) (fun h1 => ?_)
 · -- h1T
  have h1b := h1
  try simp only [decide_eq_true_eq] at h1
  refine c_skip ?_
  refine q_then ?_
  refine c_seq ?_
  refine c_block ?_
  refine c_seq ?_
  refine c_region ?_
  refine o_move rfl rfl ?_
  refine o_assign rfl rfl ?_
  refine l_nil ?_
  refine q_then ?_
  refine c_seq ?_
  refine c_region ?_
  refine o_move rfl rfl ?_
  refine o_move rfl rfl ?_
  refine o_move rfl rfl ?_
  refine o_index e_Op_ok rfl rfl rfl Try.underlying28 (by omega) (by omega) hs fun ad14 ead14 => ?_
  obtain ⟨x14, hx14⟩ : ∃ x, (xs)[((i : Int)).toNat]? = some x := ⟨_, List.getElem?_eq_getElem (by omega)⟩
  refine o_loadn (vs := e_Op.cells x14) rfl rfl Try.underlying53 rfl ti53 (rdn_sl e_Op_ok ead14 hs hx14) ?_
  refine o_callV rfl rfl rfl (hf x14 (List.mem_of_getElem? hx14)) ?_
  rintro _ _ ⟨b16, hb16, rfl, rfl⟩
  refine l_nil ?_
  refine q_then ?_
  refine c_cond rfl (fun h2 => ?_) (fun h2 => ?_)
  · -- h2T
   have h2b := h2
   try simp only [decide_eq_true_eq, decide_eq_false_iff_not, Bool.not_eq_eq_eq_not, Bool.not_true, Bool.not_false, Bool.not_eq_true', Bool.not_eq_false', Int.not_lt, Int.not_le, Bool.or_eq_true, Bool.and_eq_true] at h2
   refine c_seq ?_
   refine c_region ?_
   refine o_move rfl rfl ?_
   refine o_assign rfl rfl ?_
   refine l_nil ?_
   refine q_then ?_
   refine c_ret ?_
   refine q_block_ret ?_
   refine q_pass_ret ?_
   refine q_pass_ret ?_
   refine q_block_ret ?_
   refine q_pass_ret ?_
   exact f_ret (r_one rfl rfl) (⟨(i : Int), ⟨fun _ => ⟨x14, List.mem_of_getElem? hx14, hb16.1 h2b⟩, fun _ => by omega⟩, rfl, rfl⟩) (fun w S => S)
  · -- h2F
   have h2b := h2
   try simp only [decide_eq_true_eq, decide_eq_false_iff_not, Bool.not_eq_eq_eq_not, Bool.not_true, Bool.not_false, Bool.not_eq_true', Bool.not_eq_false', Int.not_lt, Int.not_le, Bool.or_eq_true, Bool.and_eq_true] at h2
   refine c_skip ?_
   refine q_block ?_
   refine q_then ?_
   refine c_region ?_
   refine o_bin rfl rfl rfl (b_add (wrap_i64 (by omega) (by omega))) ?_
   refine o_move rfl rfl ?_
   refine l_nil ?_
   exact q_round (i + 1) (by exact ⟨by omega, none_on hno hx14 (fun h9 => by rw [hb16.2 h9] at h2b; cases h2b)⟩) (by (try dsimp only); omega) ⟨(by first | rfl | exact vint (by omega)), (by first | rfl | exact vint (by omega)), (by first | rfl | exact vint (by omega)), (by first | rfl | exact vint (by omega)), trivial⟩ (fun w S => S)
 · -- h1F
  have h1b := h1
  try simp only [decide_eq_false_iff_not, Int.not_lt, Int.not_le] at h1
  refine c_exit ?_
  refine q_pass_exit ?_
  refine q_pass_exit ?_
  refine q_hit ?_
  refine q_then ?_
  refine c_seq ?_
  refine c_region ?_
  refine o_assign rfl rfl ?_
  refine l_nil ?_
  refine q_then ?_
  refine c_ret ?_
  exact f_ret (r_one rfl rfl) (⟨-1, ⟨fun h9 => absurd h9 (by decide), fun h9 => absurd h9 (none_all hno (by omega))⟩, rfl, rfl⟩) (fun w S => S)

theorem containsFO {W : World} {F : List Res} {xs : List Op} {a : Option Addr} {c : Nat} (hs : RdS W F e_Op a xs) (hn : xs.length ≤ 9223372036854775807) {fv : Value} {p : Op → Prop} (hf : ∀ x ∈ xs, FV Try.prog fv [.agg (e_Op.cells x).toArray] W F (fun r L' => ∃ b : Bool, (b = true ↔ p x) ∧ r = .bool b ∧ F = L')) : CS Try.prog 47 #[.slice a (xs).length c, fv] W (F) (fun r L' => ∃ b : Bool, (b = true ↔ ∃ x ∈ xs, p x) ∧ r = .bool b ∧ F = L') := by
 refine f_door (l0 := [(0, .slice a (xs).length c), (1, fv)]) Try.func47 Try.ntmps47 rfl rfl rfl ?_
 refine c_seq ?_
 refine c_region ?_
 refine o_assign rfl rfl ?_
 refine l_nil ?_
 refine q_then ?_
 refine c_seq ?_
 refine c_region ?_
 refine o_move rfl rfl ?_
 refine o_move rfl rfl ?_
 refine o_call rfl cal82 rfl (indexFO (p := p) hs (by omega) hf) ?_
 rintro _ _ ⟨n7, hn7, rfl, rfl⟩
 refine o_bin rfl rfl rfl b_geq ?_
 refine o_assign rfl rfl ?_
 refine l_nil ?_
 refine q_then ?_
 refine c_ret ?_
 exact f_ret (r_one rfl rfl) (⟨_, by rw [decide_eq_true_iff]; exact hn7, rfl, rfl⟩) (fun w S => S)

end Go.Proofs.Ytlblipkcbmcfkaa
