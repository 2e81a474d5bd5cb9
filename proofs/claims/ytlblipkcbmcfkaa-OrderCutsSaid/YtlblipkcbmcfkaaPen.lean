/- Printed by 09a/spec.py (Ty2, Slices, Pen). -/
import Derived.Test.YtlblipkcbmcfkaaTy
import Derived.Test.YtlblipkcbmcfkaaPlain
import Derived.Test.YtlblipkcbmcfkaaHeld
set_option linter.unusedVariables false
set_option linter.unusedSimpArgs false
set_option maxRecDepth 10000
namespace Go.Proofs.Ytlblipkcbmcfkaa
section
open Go.RowKit Classical
theorem ti67 : TI Try.prog 67 (.agg #[.slice none 0 0]) 1 24 := by unfold TI; kernel_rfl
theorem ti90 : TI Try.prog 90 (.slice none 0 0) 1 24 := by unfold TI; kernel_rfl
theorem ti65 : TI Try.prog 65 (.pointer none) 1 8 := by unfold TI; kernel_rfl
theorem sp67 : StructP Try.prog 67 #[(0, 1)] := ⟨_, Try.underlying67, fun w => by kernel_rfl⟩
end
section
open Go.RowKit
theorem clone8p {W : World} {F : List Res} {xs : List UInt8} {a : Option Addr} {c : Nat} (hs : RdS W F e8 a xs) (hn : xs.length ≤ 70000000000000) : CS Try.prog 56 #[.slice a xs.length c] W (F) (fun r L' => ∃ (a' : Option Addr) (c' : Nat), r = .slice a' xs.length c' ∧ L' = row e8.T e8.sz a' (xs).length c' (flat e8 xs) :: F) := by
 refine f_door (l0 := [(0, .slice a xs.length c)]) Try.func56 Try.ntmps56 rfl rfl rfl ?_
 refine c_seq ?_
 refine c_fact (rds_nilq hs) ?_
 intro hz
 refine c_region ?_
 refine o_assign rfl rfl ?_
 refine l_nil ?_
 refine q_then ?_
 refine c_seq ?_
 refine c_seq ?_
 refine c_region ?_
 refine o_move rfl rfl ?_
 refine o_bin rfl rfl rfl (b_sleq Try.underlying45 _ _ _) ?_
 refine l_nil ?_
 refine q_then ?_
 refine c_cond rfl (fun h1 => ?_) (fun h1 => ?_)
 · -- h1T
  try simp only [decide_eq_true_eq, decide_eq_false_iff_not, Bool.not_eq_eq_eq_not, Bool.not_true, Bool.not_false, Bool.not_eq_true', Bool.not_eq_false', Int.not_lt, Int.not_le, Bool.or_eq_true, Bool.and_eq_true] at h1
  have hnil : xs = [] := hz (by simpa using h1)
  refine c_seq ?_
  refine c_region ?_
  refine o_assign rfl rfl ?_
  refine l_nil ?_
  refine q_then ?_
  refine c_ret ?_
  refine q_pass_ret ?_
  exact f_ret (r_one rfl rfl) (⟨none, 0, by rw [hnil]; rfl, rfl⟩) (by rw [hnil]; exact fun w S => S.own_nil)
 · -- h1F
  try simp only [decide_eq_true_eq, decide_eq_false_iff_not, Bool.not_eq_eq_eq_not, Bool.not_true, Bool.not_false, Bool.not_eq_true', Bool.not_eq_false', Int.not_lt, Int.not_le, Bool.or_eq_true, Bool.and_eq_true] at h1
  refine c_skip ?_
  refine q_then ?_
  refine c_seq ?_
  refine c_region ?_
  refine o_lit e8_ok rfl Try.underlying45 rfl rfl rfl (lit_ok rfl) ([] : List UInt8) rfl rfl fun a5 => ?_
  refine o_move rfl rfl ?_
  refine o_append e8_ok rfl rfl rfl Try.underlying45 (rds_c hs) (by show (_ + _) * 1 ≤ _; (try simp only [List.length_append, List.length_cons, List.length_nil]); omega) (by (try simp only [List.length_append, List.length_cons, List.length_nil]); omega) fun a7 c7 => ?_
  refine o_assign rfl rfl ?_
  refine l_nil ?_
  refine q_then ?_
  refine c_ret ?_
  exact f_ret (r_one rfl rfl) (⟨_, _, rfl, rfl⟩) (fun w S => by simpa using S)
end
section
open Go.RowKit
theorem penNum {W : World} {F : List Res} {k : Nat} {xs : List UInt8} {a : Option Addr} {c : Nat} {v : Nat} (hv : v < 18446744073709551616) (hn : xs.length ≤ 70000000000000) : CS Try.prog 52 #[.pointer (some ⟨k, 0, none⟩), .int .u64 (v : Int)] W (blk k (.cells #[.slice a (xs).length c] 67 (0, 0)) :: row e8.T e8.sz a (xs).length c (flat e8 xs) :: F) (fun r L' => ∃ (a' : Option Addr) (c' : Nat), r = .tuple #[] ∧ L' = blk k (.cells #[.slice a' ((xs ++ numB v)).length c'] 67 (0, 0)) :: row e8.T e8.sz a' ((xs ++ numB v)).length c' (flat e8 (xs ++ numB v)) :: F) := by
 refine f_door (l0 := [(0, .pointer (some ⟨k, 0, none⟩)), (1, .int .u64 (v : Int))]) Try.func52 Try.ntmps52 rfl rfl rfl ?_
 refine c_seq ?_
 refine c_block ?_
 refine c_loop (α := Nat × (List UInt8) × (Option Addr) × Nat) (fun z => [(0, .pointer (some ⟨k, 0, none⟩)), (1, .int .u64 (z.1 : Int))]) (fun z => blk k (.cells #[.slice z.2.2.1 (z.2.1).length z.2.2.2] 67 (0, 0)) :: row e8.T e8.sz z.2.2.1 (z.2.1).length z.2.2.2 (flat e8 z.2.1) :: F) (fun z => z.2.1 ++ numB z.1 = xs ++ numB v ∧ z.1 < 18446744073709551616 ∧ z.2.1.length + (numB z.1).length ≤ 70000000000010) (fun z => z.1) (v, xs, a, c) (by exact ⟨rfl, hv, by dsimp only; have := numB_len_le 10 v (by omega) (by omega); omega⟩) ⟨(by first | rfl | exact vint (by omega)), (by first | rfl | exact vint (by omega)), trivial⟩ (fun w S => S) ?_
 rintro ⟨u, ys, a, c⟩ ⟨hq, hu, hl⟩
 try dsimp only at *
 have hnp := numB_pos u
 refine c_seq ?_
 refine c_seq ?_
 refine c_region ?_
 refine o_move rfl rfl ?_
 refine o_bin rfl rfl rfl b_geq ?_
 refine l_nil ?_
 refine q_then ?_
 refine c_cond rfl (fun h1 => ?_) (fun h1 => ?_)
 · -- h1T
  try simp only [decide_eq_true_eq, decide_eq_false_iff_not, Bool.not_eq_eq_eq_not, Bool.not_true, Bool.not_false, Bool.not_eq_true', Bool.not_eq_false', Int.not_lt, Int.not_le, Bool.or_eq_true, Bool.and_eq_true] at h1
  refine c_skip ?_
  refine q_then ?_
  refine c_seq ?_
  refine c_block ?_
  refine c_region ?_
  refine o_move rfl rfl ?_
  refine o_move rfl rfl ?_
  refine o_nil rfl rfl ?_
  refine o_fieldAddr (q := ⟨k, 0, none⟩) rfl rfl Try.underlying67 rfl ti45 rfl ?_
  refine o_load1 rfl rfl Try.underlying45 rfl (rd_mem 0 rfl rfl) ?_
  refine o_move rfl rfl ?_
  refine o_int rfl rfl Try.underlying22 Try.underlying5 (cv8 u) ?_
  refine o_bin rfl rfl rfl (b_or (or128 _)) ?_
  refine o_lit e8_ok rfl Try.underlying45 rfl rfl rfl (lit_ok rfl) [UInt8.ofNat u ||| 128] rfl rfl fun a16 => ?_
  refine l_f2 ?_
  refine o_append e8_ok rfl rfl rfl Try.underlying45 (rds_own e8_ok 1 rfl) (by show (_ + _) * 1 ≤ _; (try simp only [List.length_append, List.length_cons, List.length_nil]); omega) (by (try simp only [List.length_append, List.length_cons, List.length_nil]); omega) fun a17 c17 => ?_
  refine l_f1 ?_
  refine l_drop ?_
  refine o_nil rfl rfl ?_
  refine o_fieldAddr (q := ⟨k, 0, none⟩) rfl rfl Try.underlying67 rfl ti45 rfl ?_
  refine l_f1 ?_
  refine o_store1 rfl rfl rfl ti45 rfl rfl ?_
  refine l_nil ?_
  refine q_block ?_
  refine q_then ?_
  refine c_region ?_
  refine o_move rfl rfl ?_
  refine o_bin rfl rfl rfl (b_shr (by omega) (fdiv128 u)) ?_
  refine o_assign rfl rfl ?_
  refine l_nil ?_
  exact q_round (u / 128, ys ++ [UInt8.ofNat u ||| 128], a17, c17) (by have h9 := numB_ge (n := u) (by omega); exact ⟨by rw [← hq, h9]; simp, by omega, by rw [h9] at hl; simp only [List.length_append, List.length_cons, List.length_nil] at hl ⊢; omega⟩) (by (try dsimp only); omega) ⟨(by first | rfl | exact vint (by omega)), (by first | rfl | exact vint (by omega)), trivial⟩ (fun w S => S)
 · -- h1F
  try simp only [decide_eq_true_eq, decide_eq_false_iff_not, Bool.not_eq_eq_eq_not, Bool.not_true, Bool.not_false, Bool.not_eq_true', Bool.not_eq_false', Int.not_lt, Int.not_le, Bool.or_eq_true, Bool.and_eq_true] at h1
  have hq' : ys ++ [UInt8.ofNat u] = xs ++ numB v := by rw [← hq, numB_lt (by omega)]
  refine c_exit ?_
  refine q_pass_exit ?_
  refine q_pass_exit ?_
  refine q_hit ?_
  refine q_then ?_
  refine c_region ?_
  refine o_move rfl rfl ?_
  refine o_move rfl rfl ?_
  refine o_nil rfl rfl ?_
  refine o_fieldAddr (q := ⟨k, 0, none⟩) rfl rfl Try.underlying67 rfl ti45 rfl ?_
  refine o_load1 rfl rfl Try.underlying45 rfl (rd_mem 0 rfl rfl) ?_
  refine o_move rfl rfl ?_
  refine o_int rfl rfl Try.underlying22 Try.underlying5 (cv8 u) ?_
  refine o_lit e8_ok rfl Try.underlying45 rfl rfl rfl (lit_ok rfl) [UInt8.ofNat u] rfl rfl fun a27 => ?_
  refine l_f2 ?_
  refine o_append e8_ok rfl rfl rfl Try.underlying45 (rds_own e8_ok 1 rfl) (by show (_ + _) * 1 ≤ _; (try simp only [List.length_append, List.length_cons, List.length_nil]); omega) (by (try simp only [List.length_append, List.length_cons, List.length_nil]); omega) fun a28 c28 => ?_
  refine l_f1 ?_
  refine l_drop ?_
  refine o_nil rfl rfl ?_
  refine o_fieldAddr (q := ⟨k, 0, none⟩) rfl rfl Try.underlying67 rfl ti45 rfl ?_
  refine l_f1 ?_
  refine o_store1 rfl rfl rfl ti45 rfl rfl ?_
  refine l_nil ?_
  exact f_end (r_none rfl) (⟨a28, c28, rfl, by rw [← hq']; rfl⟩) (fun w S => S)

theorem penData {W : World} {F : List Res} {k : Nat} {xs : List UInt8} {a : Option Addr} {c : Nat} (hn : xs.length ≤ 70000000000000) : CS Try.prog 33 #[.pointer (some ⟨k, 0, none⟩)] W (blk k (.cells #[.slice a (xs).length c] 67 (0, 0)) :: row e8.T e8.sz a (xs).length c (flat e8 xs) :: F) (fun r L' => ∃ (a' : Option Addr) (c' : Nat), r = .slice a' xs.length c' ∧ L' = row e8.T e8.sz a' (xs).length c' (flat e8 xs) :: blk k (.cells #[.slice a (xs).length c] 67 (0, 0)) :: row e8.T e8.sz a (xs).length c (flat e8 xs) :: F) := by
 refine f_door (l0 := [(0, .pointer (some ⟨k, 0, none⟩))]) Try.func33 Try.ntmps33 rfl rfl rfl ?_
 refine c_seq ?_
 refine c_region ?_
 refine o_assign rfl rfl ?_
 refine l_nil ?_
 refine q_then ?_
 refine c_seq ?_
 refine c_region ?_
 refine o_move rfl rfl ?_
 refine o_nil rfl rfl ?_
 refine o_fieldAddr (q := ⟨k, 0, none⟩) rfl rfl Try.underlying67 rfl ti45 rfl ?_
 refine o_load1 rfl rfl Try.underlying45 rfl (rd_mem 0 rfl rfl) ?_
 refine o_call rfl cal56 rfl (clone8p (rds_own e8_ok 1 rfl) hn) ?_
 rintro _ _ ⟨a7, c7, rfl, rfl⟩
 refine o_assign rfl rfl ?_
 refine l_nil ?_
 refine q_then ?_
 refine c_ret ?_
 exact f_ret (r_one rfl rfl) (⟨a7, c7, rfl, rfl⟩) (fun w S => S)

theorem penText {W : World} {F : List Res} {k : Nat} {xs : List UInt8} {a : Option Addr} {c : Nat} {ts : List UInt8} {ta : Option Addr} {tc : Nat} (hs : RdS W F e8 ta ts) (ht : ts.length ≤ 70000000000000) (hn : xs.length ≤ 70000000000000) : CS Try.prog 54 #[.pointer (some ⟨k, 0, none⟩), .slice ta ts.length tc] W (blk k (.cells #[.slice a (xs).length c] 67 (0, 0)) :: row e8.T e8.sz a (xs).length c (flat e8 xs) :: F) (fun r L' => ∃ (a' : Option Addr) (c' : Nat), r = .tuple #[] ∧ L' = blk k (.cells #[.slice a' ((xs ++ numB ts.length ++ ts)).length c'] 67 (0, 0)) :: row e8.T e8.sz a' ((xs ++ numB ts.length ++ ts)).length c' (flat e8 (xs ++ numB ts.length ++ ts)) :: F) := by
 refine f_door (l0 := [(0, .pointer (some ⟨k, 0, none⟩)), (1, .slice ta ts.length tc)]) Try.func54 Try.ntmps54 rfl rfl rfl ?_
 refine c_seq ?_
 refine c_region ?_
 refine o_move rfl rfl ?_
 refine o_move rfl rfl ?_
 refine o_len rfl rfl Try.underlying45 ?_
 refine o_int rfl rfl Try.underlying3 Try.underlying22 (wrap_u64 (by omega) (by omega)) ?_
 refine l_f1 ?_
 refine l_f1 ?_
 refine o_call rfl cal52 rfl (penNum (v := ts.length) (by omega) (by omega)) ?_
 rintro _ _ ⟨a8, c8, rfl, rfl⟩
 have hnb := numB_len_le 10 ts.length (by omega) (by omega)
 refine l_nil ?_
 refine q_then ?_
 refine c_region ?_
 refine o_move rfl rfl ?_
 refine o_move rfl rfl ?_
 refine o_nil rfl rfl ?_
 refine o_fieldAddr (q := ⟨k, 0, none⟩) rfl rfl Try.underlying67 rfl ti45 rfl ?_
 refine o_load1 rfl rfl Try.underlying45 rfl (rd_mem 0 rfl rfl) ?_
 refine o_move rfl rfl ?_
 refine l_f1 ?_
 refine o_append e8_ok rfl rfl rfl Try.underlying45 (rds_c (rds_c hs)) (by show (_ + _) * 1 ≤ _; (try simp only [List.length_append, List.length_cons, List.length_nil]); omega) (by (try simp only [List.length_append, List.length_cons, List.length_nil]); omega) fun a15 c15 => ?_
 refine o_nil rfl rfl ?_
 refine o_fieldAddr (q := ⟨k, 0, none⟩) rfl rfl Try.underlying67 rfl ti45 rfl ?_
 refine l_f1 ?_
 refine o_store1 rfl rfl rfl ti45 rfl rfl ?_
 refine l_nil ?_
 exact f_end (r_none rfl) (⟨a15, c15, rfl, rfl⟩) (fun w S => S)
end
end Go.Proofs.Ytlblipkcbmcfkaa
