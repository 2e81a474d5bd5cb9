/- Printed by eng2.py out of 09a/spec.py. -/
import Derived.Test.YtlblipkcbmcfkaaRdr
set_option linter.unusedVariables false
set_option linter.unusedSimpArgs false
set_option maxRecDepth 10000
namespace Go.Proofs.Ytlblipkcbmcfkaa
open Go.RowKit Classical
theorem back_ {W : World} {F : List Res} {n : Nat} (hn : n < 18446744073709551616) : CS Try.prog 64 #[.int .u64 (n : Int)] W (F) (fun r L' => r = .int .i64 (unzig (n : Int)) ∧ F = L') := by
 refine f_door (l0 := [(0, .int .u64 (n : Int))]) Try.func64 Try.ntmps64 rfl rfl rfl ?_
 refine c_seq ?_
 refine c_region ?_
 refine o_assign rfl rfl ?_
 refine l_nil ?_
 refine q_then ?_
 refine c_seq ?_
 refine c_region ?_
 refine o_move rfl rfl ?_
 refine o_bin rfl rfl rfl (b_shr (by omega) (show (n : Int).fdiv (2 ^ (min (1 : Int).toNat IntKind.u64.bits)) = ((n / 2 : Nat) : Int) from by rw [show (2 : Int) ^ (min (1 : Int).toNat IntKind.u64.bits) = 2 by decide, Int.fdiv_eq_ediv_of_nonneg _ (by omega)]; omega)) ?_
 refine o_int rfl rfl Try.underlying22 Try.underlying2 (wrap_i64 (by omega) (by omega)) ?_
 refine o_move rfl rfl ?_
 refine o_bin rfl rfl rfl (b_and (and1 hn)) ?_
 refine o_int rfl rfl Try.underlying22 Try.underlying2 (wrap_i64 (by omega) (by omega)) ?_
 refine o_neg rfl rfl (wrap_i64 (by omega) (by omega)) ?_
 refine o_bin rfl rfl rfl (b_xor (back_unzig hn)) ?_
 refine o_assign rfl rfl ?_
 refine l_nil ?_
 refine q_then ?_
 refine c_ret ?_
 exact f_ret (r_one rfl rfl) (⟨rfl, rfl⟩) (fun w S => S)

set_option maxHeartbeats 1000000 in
theorem rtexts_ {W : World} {F : List Res} {k i : Nat} {bs ys : List UInt8} {a ay : Option Addr} {c cy : Nat} (ok : EyeOk W a bs i ys ay cy) : CS Try.prog 62 #[.agg #[.pointer (some ⟨k, 0, none⟩)]] W (blk k (.cells #[.slice ay (ys).length cy] 98 (0, 0)) :: row e8.T e8.sz a (bs).length c (flat e8 bs) :: F) (fun r L' => ∃ (out : List ByteArray) (ys' : List UInt8) (ay' : Option Addr) (cy' i' : Nat) (a2 : Option Addr) (c2 : Nat), out.length ≤ 9 ∧ (∀ ss rest, TxGood ss rest ys → out = ss ∧ ys' = rest) ∧ EyeOk W a bs i' ys' ay' cy' ∧ r = .slice a2 out.length c2 ∧ L' = row e_S.T e_S.sz a2 (out).length c2 (flat e_S out) :: blk k (.cells #[.slice ay' (ys').length cy'] 98 (0, 0)) :: row e8.T e8.sz a (bs).length c (flat e8 bs) :: F) := by
 refine f_door (l0 := [(0, .agg #[.pointer (some ⟨k, 0, none⟩)])]) Try.func62 Try.ntmps62 rfl rfl rfl ?_
 refine c_seq ?_
 refine c_region ?_
 refine o_box rfl rfl fun b1 => ?_
 refine o_assign rfl rfl ?_
 refine l_nil ?_
 refine q_then ?_
 refine c_seq ?_
 refine c_seq ?_
 refine c_nilrow e_S ?_
 refine c_region ?_
 refine o_loadn (vs := [_]) rfl rfl Try.underlying75 rfl ti75 (rdn_lit 1 rfl rfl) ?_
 refine l_f3 ?_
 refine l_f3 ?_
 refine o_call rfl cal60 rfl (rsmall_ ok) ?_
 rintro _ _ ⟨ys4, ay4, cy4, ok4, rfl, rfl⟩
 have dr4 : ys4 = ys.drop (numR 0 0 ys).2.2 := EyeOk.next ok ok4
 refine o_min rfl rfl rfl Try.underlying3 ?_
 obtain ⟨n, hn⟩ : ∃ n : Nat, (n : Int) = min (smR ys) 9 := ⟨(min (smR ys) 9).toNat, by have := smR_0 ys; omega⟩
 refine l_eq (t := 5) (v' := .int .i64 (n : Int)) rfl (by exact congrArg (Value.int .i64) hn.symm) ?_
 refine o_move rfl rfl ?_
 refine l_nil ?_
 refine q_then ?_
 refine c_block ?_
 refine c_loop (α := Nat × (List ByteArray) × (Option Addr) × Nat × (List UInt8) × (Option Addr) × Nat × Nat) (fun z => [(1, .pointer (some ⟨b1, 0, none⟩)), (2, .slice z.2.2.1 (z.2.1).length z.2.2.2.1), (5, .int .i64 (n : Int)), (6, .int .i64 (z.1 : Int))]) (fun z => blk k (.cells #[.slice z.2.2.2.2.2.1 (z.2.2.2.2.1).length z.2.2.2.2.2.2.1] 98 (0, 0)) :: row e8.T e8.sz a (bs).length c (flat e8 bs) :: row e_S.T e_S.sz z.2.2.1 (z.2.1).length z.2.2.2.1 (flat e_S z.2.1) :: blk b1 (.cells #[.pointer (some ⟨k, 0, none⟩)] 75 (0, 0)) :: F) (fun z => z.1 ≤ n ∧ EyeOk W a bs z.2.2.2.2.2.2.2 z.2.2.2.2.1 z.2.2.2.2.2.1 z.2.2.2.2.2.2.1 ∧ TxInv ys n z.1 z.2.1 z.2.2.2.2.1) (fun z => n - z.1) (0, [], none, 0, ys4, ay4, cy4, _) (by exact ⟨Nat.zero_le _, ok4, TxInv.start hn dr4⟩) ⟨(by first | rfl | exact vint (by omega)), (by first | rfl | exact vint (by omega)), (by first | rfl | exact vint (by omega)), (by first | rfl | exact vint (by omega)), trivial⟩ (fun w S => S) ?_
 rintro ⟨j, out, a8, c8, ye, ae, ce, ei⟩ ⟨hj, oke, hT⟩
 try dsimp only at *
 have hol := hT.len
 have hn9 : n ≤ 9 := by omega
 refine c_seq ?_
 refine c_region ?_
 refine o_bin rfl rfl rfl b_lss ?_
 refine l_nil ?_
 refine q_then ?_
 refine c_seq ?_
 refine c_cond rfl (fun h1 => ?_) (fun h1 => ?_)
 · -- h1T
  have h1b := h1
  try simp only [decide_eq_true_eq] at h1
  refine c_skip ?_
  refine q_then ?_
  refine c_seq ?_
  refine c_block ?_
  refine c_region ?_
  refine o_move rfl rfl ?_
  refine o_loadn (vs := [_]) rfl rfl Try.underlying75 rfl ti75 (rdn_lit 3 rfl rfl) ?_
  refine l_f1 ?_
  refine l_f1 ?_
  refine o_call rfl cal63 rfl (rtext_ oke) ?_
  rintro _ _ ⟨out10, ys10, ay10, cy10, a10, c10, hout10, ok10, rfl, rfl⟩
  have dr10 : ys10 = ye.drop (textR ye).2.2 := EyeOk.next oke ok10
  refine o_bytesStr (e := e8) rfl rfl rfl Try.underlying45 Try.underlying5 Try.underlying9 (rds_own e8_ok 0 rfl) ?_
  refine o_lit e_S_ok rfl Try.underlying27 rfl rfl rfl (lit_ok rfl) [bts out10] rfl rfl fun a12 => ?_
  refine l_f4 ?_
  refine o_append e_S_ok rfl rfl rfl Try.underlying27 (rds_own e_S_ok 1 rfl) (by show (_ + _) * 16 ≤ _; (try simp only [List.length_append, List.length_cons, List.length_nil]); omega) (by (try simp only [List.length_append, List.length_cons, List.length_nil]); omega) fun a13 c13 => ?_
  refine l_f1 ?_
  refine l_drop ?_
  refine o_assign rfl rfl ?_
  refine l_nil ?_
  refine q_block ?_
  refine q_then ?_
  refine c_region ?_
  refine o_bin rfl rfl rfl (b_add (wrap_i64 (by omega) (by omega))) ?_
  refine o_move rfl rfl ?_
  refine l_nil ?_
  refine q_conv (fun w S => (S.perm p1).tail) ?_
  refine q_conv (fun w S => S.perm p3) ?_
  refine q_conv (fun w S => S.perm p1) ?_
  refine q_conv (fun w S => S.perm p3) ?_
  refine q_conv (fun w S => S.perm p3) ?_
  exact q_round (j + 1, out ++ [bts out10], a13, c13, ys10, ay10, cy10, _) (by exact ⟨by omega, ok10, by have h9 := hT.on (by omega) dr10; rw [← hout10] at h9; exact h9⟩) (by (try dsimp only); omega) ⟨(by first | rfl | exact vint (by omega)), (by first | rfl | exact vint (by omega)), (by first | rfl | exact vint (by omega)), (by first | rfl | exact vint (by omega)), trivial⟩ (fun w S => S)
 · -- h1F
  have h1b := h1
  try simp only [decide_eq_false_iff_not, Int.not_lt, Int.not_le] at h1
  refine c_exit ?_
  refine q_pass_exit ?_
  refine q_pass_exit ?_
  refine q_hit ?_
  refine q_then ?_
  refine c_seq ?_
  refine c_region ?_
  refine o_move rfl rfl ?_
  refine o_assign rfl rfl ?_
  refine l_nil ?_
  refine q_then ?_
  refine c_ret ?_
  refine q_conv (fun w S => (S.perm p3).tail) ?_
  refine q_conv (fun w S => S.perm p1) ?_
  refine q_conv (fun w S => S.perm p1) ?_
  refine q_conv (fun w S => S.perm p2) ?_
  exact f_ret (r_one rfl rfl) (⟨out, ye, ae, ce, ei, a8, c8, by have h9 := hT.len; omega, hT.fin (by omega), oke, rfl, rfl⟩) (fun w S => S)

end Go.Proofs.Ytlblipkcbmcfkaa
