/- Printed by eng2.py out of 12/spec.py. -/
import Derived.Test.YtakjmdeckngnlaaLead2
set_option linter.unusedVariables false
set_option linter.unusedSimpArgs false
set_option maxRecDepth 10000
namespace Go.Proofs.Ytakjmdeckngnlaa
open Go.RowKit
theorem lnewOkS {W : World} {F : List Res} {b v f : Int} (h : 1 ≤ v ∧ v ≤ 9 ∧ 0 ≤ f ∧ f ≤ 64) : CS Try.prog 10 #[.int .u64 b, .int .i64 v, .int .i64 f] W F (fun r L' => ∃ k, r = .tuple #[.pointer (some ⟨k, 0, none⟩), .int .i64 0] ∧ L' = LdR k (ldNew ByteArray b v f) :: F) :=
  lnewS.mono fun r L' hp => by
    obtain ⟨p, rfl, ⟨_, _, hn, _⟩ | ⟨k, h1, h2, _, hL⟩⟩ := hp
    · exact absurd h hn
    · exact ⟨k, by rw [h1, h2], hL⟩
theorem lnewNoS {W : World} {F : List Res} {b v f : Int} (h : ¬ (1 ≤ v ∧ v ≤ 9 ∧ 0 ≤ f ∧ f ≤ 64)) : CS Try.prog 10 #[.int .u64 b, .int .i64 v, .int .i64 f] W F (fun r L' => r = .tuple #[.pointer none, .int .i64 1] ∧ L' = F) :=
  lnewS.mono fun r L' hp => by
    obtain ⟨p, rfl, ⟨h1, h2, hn, hL⟩ | ⟨k, h1, h2, hy, hL⟩⟩ := hp
    · exact ⟨by rw [h1, h2], hL⟩
    · exact absurd hy h
theorem lnewOkI {W : World} {F : List Res} {b v f : Int} (h : 1 ≤ v ∧ v ≤ 9 ∧ 0 ≤ f ∧ f ≤ 64) : CS Try.prog 24 #[.int .u64 b, .int .i64 v, .int .i64 f] W F (fun r L' => ∃ k, r = .tuple #[.pointer (some ⟨k, 0, none⟩), .int .i64 0] ∧ L' = LdRI k (ldNew Int b v f) :: F) :=
  lnewI.mono fun r L' hp => by
    obtain ⟨p, rfl, ⟨_, _, hn, _⟩ | ⟨k, h1, h2, _, hL⟩⟩ := hp
    · exact absurd h hn
    · exact ⟨k, by rw [h1, h2], hL⟩
theorem lnewNoI {W : World} {F : List Res} {b v f : Int} (h : ¬ (1 ≤ v ∧ v ≤ 9 ∧ 0 ≤ f ∧ f ≤ 64)) : CS Try.prog 24 #[.int .u64 b, .int .i64 v, .int .i64 f] W F (fun r L' => r = .tuple #[.pointer none, .int .i64 1] ∧ L' = F) :=
  lnewI.mono fun r L' hp => by
    obtain ⟨p, rfl, ⟨h1, h2, hn, hL⟩ | ⟨k, h1, h2, hy, hL⟩⟩ := hp
    · exact ⟨by rw [h1, h2], hL⟩
    · exact absurd hy h
set_option maxHeartbeats 1000000 in
theorem speaks_ {W : World} {F : List Res}  : CS Try.prog 8 #[] W (F) (fun r L' => r = .bool true ∧ F = L') := by
 refine f_door (l0 := []) Try.func8 Try.ntmps8 rfl rfl rfl ?_
 refine c_seq ?_
 refine c_region ?_
 refine o_assign rfl rfl ?_
 refine l_nil ?_
 refine q_then ?_
 refine c_seq ?_
 refine c_region ?_
 refine o_call rfl cal10 rfl (lnewOkS (by omega)) ?_
 rintro _ _ ⟨k12, rfl, rfl⟩
 refine o_move rfl rfl ?_
 refine o_extract rfl rfl rfl ?_
 refine o_extract rfl rfl rfl ?_
 refine o_assign rfl rfl ?_
 refine o_assign rfl rfl ?_
 refine l_nil ?_
 refine q_then ?_
 refine c_seq ?_
 refine c_seq ?_
 refine c_region ?_
 refine o_move rfl rfl ?_
 refine o_bin rfl rfl rfl (b_peq Try.underlying25 _) ?_
 refine o_move rfl rfl ?_
 refine o_yes rfl rfl rfl ?_
 refine o_move rfl rfl ?_
 refine o_yes rfl rfl rfl ?_
 refine o_bin rfl rfl rfl b_neq ?_
 refine o_pick_false rfl rfl rfl ?_
 refine l_nil ?_
 refine q_then ?_
 refine c_false rfl ?_
 refine c_skip ?_
 refine q_then ?_
 refine c_seq ?_
 refine c_region ?_
 refine o_move rfl rfl ?_
 refine o_call rfl cal13 rfl (promisedS (vs := []) (a := none) (c := 0) (rds_nil _ _) (by first | decide | omega | (simp; omega))) ?_
 rintro _ _ ⟨rfl, rfl⟩
 refine l_nil ?_
 refine q_then ?_
 refine c_seq ?_
 refine c_region ?_
 refine o_move rfl rfl ?_
 refine o_build rfl sp40 ti40 rfl ((fill_cons (cells' := [.int .i64 0, .int .u64 4, .string ByteArray.empty]) rfl rfl rfl rfl (fill_cons (cells' := [.int .i64 0, .int .u64 4, .string ⟨#[120]⟩]) rfl rfl rfl rfl fill_nil))) ?_
 refine o_lit eVS_ok rfl Try.underlying35 rfl rfl rfl (lit_ok rfl) ([⟨0, 4, ⟨#[120]⟩⟩]) rfl rfl fun a25 => ?_
 refine l_f1 ?_
 refine o_call rfl cal13 rfl (promisedS (vs := [⟨0, 4, ⟨#[120]⟩⟩]) (a := a25) (c := 1) (rds_own eVS_ok 0 rfl) (by first | decide | omega | (simp; omega))) ?_
 rintro _ _ ⟨rfl, rfl⟩
 refine l_nil ?_
 refine q_then ?_
 refine c_seq ?_
 refine c_region ?_
 refine o_move rfl rfl ?_
 refine o_call rfl cal19 rfl (valueS) ?_
 rintro _ _ ⟨rfl, rfl⟩
 refine o_move rfl rfl ?_
 refine o_extract rfl rfl rfl ?_
 refine o_extract rfl rfl rfl ?_
 refine l_eq (t := 31) (v' := .bool true) rfl (show _ = Value.bool true from by kernel_rfl) ?_
 refine o_assign rfl rfl ?_
 refine o_assign rfl rfl ?_
 refine l_nil ?_
 refine q_then ?_
 refine c_seq ?_
 refine c_region ?_
 refine o_move rfl rfl ?_
 refine o_call rfl cal17 rfl (takenS) ?_
 rintro _ _ ⟨rfl, rfl⟩
 refine o_move rfl rfl ?_
 refine o_extract rfl rfl rfl ?_
 refine o_extract rfl rfl rfl ?_
 refine l_eq (t := 36) (v' := .bool false) rfl (show _ = Value.bool false from by kernel_rfl) ?_
 refine o_assign rfl rfl ?_
 refine o_assign rfl rfl ?_
 refine l_nil ?_
 refine q_then ?_
 refine c_seq ?_
 refine c_region ?_
 refine o_move rfl rfl ?_
 refine o_call rfl cal17 rfl (takenS) ?_
 rintro _ _ ⟨rfl, rfl⟩
 refine o_move rfl rfl ?_
 refine o_extract rfl rfl rfl ?_
 refine o_extract rfl rfl rfl ?_
 refine l_eq (t := 41) (v' := .bool true) rfl (show _ = Value.bool true from by kernel_rfl) ?_
 refine o_assign rfl rfl ?_
 refine o_assign rfl rfl ?_
 refine l_nil ?_
 refine q_then ?_
 refine c_seq ?_
 refine c_region ?_
 refine o_move rfl rfl ?_
 refine o_call rfl cal19 rfl (valueS) ?_
 rintro _ _ ⟨rfl, rfl⟩
 refine o_move rfl rfl ?_
 refine o_extract rfl rfl rfl ?_
 refine o_extract rfl rfl rfl ?_
 refine l_eq (t := 46) (v' := .bool false) rfl (show _ = Value.bool false from by kernel_rfl) ?_
 refine o_assign rfl rfl ?_
 refine o_assign rfl rfl ?_
 refine l_nil ?_
 refine q_then ?_
 refine c_seq ?_
 refine c_region ?_
 refine o_move rfl rfl ?_
 refine o_move rfl rfl ?_
 refine o_yes rfl rfl rfl ?_
 refine o_move rfl rfl ?_
 refine o_yes rfl rfl rfl ?_
 refine o_bin rfl rfl rfl b_seql ?_
 refine l_eq (t := 50) (v' := .bool true) rfl (show _ = Value.bool true from by kernel_rfl) ?_
 refine o_pick_true rfl rfl rfl ?_
 refine o_move rfl rfl ?_
 refine o_yes rfl rfl rfl ?_
 refine o_move rfl rfl ?_
 refine o_yes rfl rfl rfl ?_
 refine o_not rfl rfl ?_
 refine o_pick_true rfl rfl rfl ?_
 refine o_move rfl rfl ?_
 refine o_yes rfl rfl rfl ?_
 refine o_move rfl rfl ?_
 refine o_pick_true rfl rfl rfl ?_
 refine o_move rfl rfl ?_
 refine o_yes rfl rfl rfl ?_
 refine o_move rfl rfl ?_
 refine o_yes rfl rfl rfl ?_
 refine o_bin rfl rfl rfl b_seql ?_
 refine l_eq (t := 61) (v' := .bool true) rfl (show _ = Value.bool true from by kernel_rfl) ?_
 refine o_pick_true rfl rfl rfl ?_
 refine o_move rfl rfl ?_
 refine o_yes rfl rfl rfl ?_
 refine o_move rfl rfl ?_
 refine o_yes rfl rfl rfl ?_
 refine o_not rfl rfl ?_
 refine o_pick_true rfl rfl rfl ?_
 refine o_move rfl rfl ?_
 refine o_yes rfl rfl rfl ?_
 refine o_move rfl rfl ?_
 refine o_yes rfl rfl rfl ?_
 refine o_call rfl cal23 rfl (slotS) ?_
 rintro _ _ ⟨rfl, rfl⟩
 refine o_yes rfl rfl rfl ?_
 refine o_bin rfl rfl rfl b_eql ?_
 refine l_eq (t := 70) (v' := .bool true) rfl (show _ = Value.bool true from by kernel_rfl) ?_
 refine o_pick_true rfl rfl rfl ?_
 refine o_assign rfl rfl ?_
 refine l_nil ?_
 refine q_then ?_
 refine c_ret ?_
 refine q_conv (fun w S => S.tail) ?_
 refine q_conv (fun w S => S.tail) ?_
 exact f_ret (r_one rfl rfl) (⟨rfl, rfl⟩) (fun w S => S)

end Go.Proofs.Ytakjmdeckngnlaa
