/- Printed by eng2.py out of 15/spec.py. -/
import Derived.Test.YteehongibjkjlaaTy
set_option linter.unusedVariables false
set_option linter.unusedSimpArgs false
set_option maxRecDepth 10000
namespace Go.Proofs.Yteehongibjkjlaa
open Go.RowKit Classical
theorem vtrue' {p : Prop} {i : Decidable p} (h : p) : Value.bool true = Value.bool (@decide p i) := by rw [decide_eq_true h]
theorem vfalse' {p : Prop} {i : Decidable p} (h : ¬ p) : Value.bool false = Value.bool (@decide p i) := by rw [decide_eq_false h]
theorem bdec' {p q : Prop} {i : Decidable p} {j : Decidable q} (h : q ↔ p) : Value.bool (@decide p i) = Value.bool (@decide q j) := by
  by_cases hp : p
  · rw [decide_eq_true hp, decide_eq_true (h.2 hp)]
  · rw [decide_eq_false hp, decide_eq_false (fun hq => hp (h.1 hq))]
theorem bnot' {p q : Prop} {i : Decidable p} {j : Decidable q} (h : q ↔ ¬ p) : Value.bool (!@decide p i) = Value.bool (@decide q j) := by
  by_cases hp : p
  · rw [decide_eq_true hp, decide_eq_false (fun hq => h.1 hq hp)]; rfl
  · rw [decide_eq_false hp, decide_eq_true (h.2 hp)]; rfl
theorem notin_on' {α : Type} {xs : List α} {key x : α} {i : Nat} (h : ∀ j x, j < i → xs[j]? = some x → x ≠ key) (hx : xs[((i : Int)).toNat]? = some x) (hn : ¬ x = key) : ∀ j x, j < i + 1 → xs[j]? = some x → x ≠ key := fun j y hj hy => by
  have hx' : xs[i]? = some x := hx
  by_cases hji : j < i
  · exact h j y hji hy
  · obtain rfl : j = i := by omega
    rw [hx'] at hy; cases hy; exact hn
theorem notin_all' {α : Type} {xs : List α} {key : α} {i : Nat} (h : ∀ j x, j < i → xs[j]? = some x → x ≠ key) (hi : xs.length ≤ i) : ¬ key ∈ xs := fun hm => by
  obtain ⟨j, hj, rfl⟩ := List.mem_iff_getElem.1 hm
  exact h j _ (by omega) (List.getElem?_eq_getElem hj) rfl
theorem indexI_ {W : World} {F : List Res} {xs : List Int} {a : Option Addr} {c : Nat} (hs : RdS W F e_I a xs) (hn : xs.length ≤ 9223372036854775807) {key : Int} : CS Try.prog 42 #[.slice a xs.length c, .int .i64 key] W (F) (fun r L' => ∃ n : Int, (0 ≤ n ↔ key ∈ xs) ∧ r = .int .i64 n ∧ F = L') := by
 refine f_door (l0 := [(0, .slice a xs.length c), (1, .int .i64 key)]) Try.func42 Try.ntmps42 rfl rfl rfl ?_
 refine c_seq ?_
 refine c_region ?_
 refine o_assign rfl rfl ?_
 refine l_nil ?_
 refine q_then ?_
 refine c_seq ?_
 refine c_seq ?_
 refine c_region ?_
 refine o_move rfl rfl ?_
 refine o_len rfl rfl Try.underlying25 ?_
 refine o_move rfl rfl ?_
 refine l_nil ?_
 refine q_then ?_
 refine c_block ?_
 refine c_loop (α := Nat) (fun z => [(0, .slice a (xs).length c), (1, .int .i64 key), (7, .int .i64 ((xs).length : Int)), (8, .int .i64 (z : Int))]) (fun z => F) (fun z => z ≤ xs.length ∧ ∀ j x, j < z → xs[j]? = some x → x ≠ key) (fun z => xs.length - z) (0) (by exact ⟨Nat.zero_le _, fun j x h => absurd h (by omega)⟩) ⟨(by first | rfl | exact vint (by omega)), (by first | rfl | exact vint (by omega)), (by first | rfl | exact vint (by omega)), (by first | rfl | exact vint (by omega)), trivial⟩ (fun w S => S) ?_
 rintro i ⟨hi, hno⟩
 try dsimp only at *
 refine c_seq ?_
 refine c_region ?_
 refine o_bin rfl rfl rfl b_lss ?_
 refine l_nil ?_
 refine q_then ?_
 refine c_seq ?_
 refine c_cond rfl (fun h1 => ?_) (fun h1 => ?_)
 · -- h1T
  have h1b := h1
  try simp only [decide_eq_true_eq] at h1
  refine c_skip ?_
  refine q_then ?_
  refine c_seq ?_
  refine c_block ?_
  refine c_seq ?_
  refine c_region ?_
  refine o_move rfl rfl ?_
  refine o_assign rfl rfl ?_
  refine l_nil ?_
  refine q_then ?_
  refine c_seq ?_
  refine c_region ?_
  refine o_move rfl rfl ?_
  refine o_move rfl rfl ?_
  refine o_move rfl rfl ?_
  refine o_index e_I_ok rfl rfl rfl Try.underlying25 (by omega) (by omega) hs fun ad14 ead14 => ?_
  obtain ⟨x14, hx14⟩ : ∃ x, (xs)[((i : Int)).toNat]? = some x := ⟨_, List.getElem?_eq_getElem (by omega)⟩
  refine o_load1 rfl rfl Try.underlying3 rfl (rd_sl0 e_I_ok ead14 hs hx14 rfl) ?_
  refine o_bin rfl rfl rfl b_eql ?_
  refine l_nil ?_
  refine q_then ?_
  refine c_cond rfl (fun h2 => ?_) (fun h2 => ?_)
  · -- h2T
   have h2b := h2
   try simp only [decide_eq_true_eq] at h2
   refine c_seq ?_
   refine c_region ?_
   refine o_move rfl rfl ?_
   refine o_assign rfl rfl ?_
   refine l_nil ?_
   refine q_then ?_
   refine c_ret ?_
   refine q_block_ret ?_
   refine q_pass_ret ?_
   refine q_pass_ret ?_
   refine q_block_ret ?_
   refine q_pass_ret ?_
   exact f_ret (r_one rfl rfl) (⟨(i : Int), ⟨fun _ => by subst h2; exact List.mem_of_getElem? hx14, fun _ => by omega⟩, rfl, rfl⟩) (fun w S => S)
  · -- h2F
   have h2b := h2
   try simp only [decide_eq_false_iff_not, Int.not_lt, Int.not_le] at h2
   have hne : ¬ x14 = key := fun h9 => h2 h9.symm
   refine c_skip ?_
   refine q_block ?_
   refine q_then ?_
   refine c_region ?_
   refine o_bin rfl rfl rfl (b_add (wrap_i64 (by omega) (by omega))) ?_
   refine o_move rfl rfl ?_
   refine l_nil ?_
   exact q_round (i + 1) (by exact ⟨by omega, notin_on' hno hx14 hne⟩) (by (try dsimp only); omega) ⟨(by first | rfl | exact vint (by omega)), (by first | rfl | exact vint (by omega)), (by first | rfl | exact vint (by omega)), (by first | rfl | exact vint (by omega)), trivial⟩ (fun w S => S)
 · -- h1F
  have h1b := h1
  try simp only [decide_eq_false_iff_not, Int.not_lt, Int.not_le] at h1
  refine c_exit ?_
  refine q_pass_exit ?_
  refine q_pass_exit ?_
  refine q_hit ?_
  refine q_then ?_
  refine c_seq ?_
  refine c_region ?_
  refine o_assign rfl rfl ?_
  refine l_nil ?_
  refine q_then ?_
  refine c_ret ?_
  exact f_ret (r_one rfl rfl) (⟨-1, ⟨fun h9 => absurd h9 (by decide), fun h9 => absurd h9 (notin_all' hno (by omega))⟩, rfl, rfl⟩) (fun w S => S)

theorem containsI_ {W : World} {F : List Res} {xs : List Int} {a : Option Addr} {c : Nat} (hs : RdS W F e_I a xs) (hn : xs.length ≤ 9223372036854775807) {key : Int} : CS Try.prog 32 #[.slice a (xs).length c, .int .i64 key] W (F) (fun r L' => r = .bool (decide (key ∈ xs)) ∧ F = L') := by
 refine f_door (l0 := [(0, .slice a (xs).length c), (1, .int .i64 key)]) Try.func32 Try.ntmps32 rfl rfl rfl ?_
 refine c_seq ?_
 refine c_region ?_
 refine o_assign rfl rfl ?_
 refine l_nil ?_
 refine q_then ?_
 refine c_seq ?_
 refine c_region ?_
 refine o_move rfl rfl ?_
 refine o_move rfl rfl ?_
 refine o_call rfl cal42 rfl (indexI_ (key := key) hs (by omega)) ?_
 rintro _ _ ⟨n7, hn7, rfl, rfl⟩
 refine o_bin rfl rfl rfl b_geq ?_
 refine o_assign rfl rfl ?_
 refine l_nil ?_
 refine q_then ?_
 refine c_ret ?_
 exact f_ret (r_one rfl rfl) (⟨by rw [decide_eq_decide.2 hn7], rfl⟩) (fun w S => S)

end Go.Proofs.Yteehongibjkjlaa
