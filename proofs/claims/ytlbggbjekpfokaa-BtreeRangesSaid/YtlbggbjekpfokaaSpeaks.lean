/- Printed by eng2.py out of 02/spec.py. -/
import Derived.Test.YtlbggbjekpfokaaNextp
set_option linter.unusedVariables false
set_option linter.unusedSimpArgs false
set_option maxRecDepth 10000
namespace Go.Proofs.Ytlbggbjekpfokaa
open Go.RowKit Classical
theorem speaks_ {W : World} {F : List Res} : CS Try.prog 6 #[] W (F) (fun r L' => r = .bool true ∧ F = L') := by
 refine f_door (l0 := []) Try.func6 Try.ntmps6 rfl rfl rfl ?_
 refine c_seq ?_
 refine c_region ?_
 refine o_assign rfl rfl ?_
 refine l_nil ?_
 refine q_then ?_
 refine c_seq ?_
 refine c_region ?_
 refine o_call rfl cal8 rfl (new_A) ?_
 rintro _ _ ⟨t6, rfl, rfl⟩
 refine o_assign rfl rfl ?_
 refine l_nil ?_
 refine q_then ?_
 refine c_seq ?_
 refine c_seq ?_
 refine c_region ?_
 refine o_move rfl rfl ?_
 refine o_bin rfl rfl rfl (b_peq Try.underlying25 _) ?_
 refine l_nil ?_
 refine q_then ?_
 refine c_false rfl ?_
 refine c_skip ?_
 refine q_then ?_
 refine c_seq ?_
 refine c_region ?_
 refine o_move rfl rfl ?_
 refine o_call rfl cal9 rfl (tput_A (k := ⟨#[98]⟩) (v := 1) (by decide)) ?_
 rintro _ _ ⟨old10, had10, ⟨hol10, hsr10⟩, rfl, rfl⟩
 refine l_nil ?_
 refine q_then ?_
 refine c_seq ?_
 refine c_region ?_
 refine o_move rfl rfl ?_
 refine o_call rfl cal9 rfl (tput_A (k := ⟨#[97]⟩) (v := 2) (by rw [show (⟨#[98]⟩ : ByteArray) = s98 from rfl, sp1]; decide)) ?_
 rintro _ _ ⟨old12, had12, ⟨hol12, hsr12⟩, rfl, rfl⟩
 refine l_nil ?_
 refine q_then ?_
 refine c_seq ?_
 refine c_region ?_
 refine o_move rfl rfl ?_
 refine o_call rfl cal9 rfl (tput_A (k := ⟨#[98]⟩) (v := 3) (by have h9 := sp2; rw [show (ins ItA.f_key strlt (⟨⟨#[97]⟩, 2⟩ : ItA) (ins ItA.f_key strlt (⟨⟨#[98]⟩, 1⟩ : ItA) [])) = [⟨s97, 2⟩, ⟨s98, 1⟩] from sp2]; decide)) ?_
 rintro _ _ ⟨old15, had15, ⟨hol15, hsr15⟩, rfl, rfl⟩
 obtain ⟨ho15, hh15⟩ := spOld hol15
 refine o_move rfl rfl ?_
 refine o_extract rfl rfl rfl ?_
 refine o_extract rfl rfl rfl ?_
 refine o_assign rfl rfl ?_
 refine o_assign rfl rfl ?_
 refine l_nil ?_
 refine q_then ?_
 refine c_seq ?_
 refine c_region ?_
 refine o_move rfl rfl ?_
 refine o_call rfl cal23 rfl (first_A (k := ⟨#[97, 97]⟩)) ?_
 rintro _ _ ⟨nk20, ok20, hfk20, rfl, rfl⟩
 obtain ⟨hn20, hk20⟩ := spFst hfk20
 refine o_move rfl rfl ?_
 refine o_extract rfl rfl rfl ?_
 refine o_extract rfl rfl rfl ?_
 refine o_assign rfl rfl ?_
 refine o_assign rfl rfl ?_
 refine l_nil ?_
 refine q_then ?_
 refine c_seq ?_
 refine c_region ?_
 refine o_move rfl rfl ?_
 refine o_bin rfl rfl rfl b_eql ?_
 refine l_eq (t := 24) (v' := .bool true) rfl (show _ = Value.bool true from by rw [ho15]; first | done | rfl) ?_
 refine o_move rfl rfl ?_
 refine o_yes rfl rfl rfl ?_
 refine o_move rfl rfl ?_
 refine l_eq (t := 26) (v' := .bool true) rfl (show _ = Value.bool true from by rw [hh15]; first | done | rfl) ?_
 refine o_pick_true rfl rfl rfl ?_
 refine o_move rfl rfl ?_
 refine o_yes rfl rfl rfl ?_
 refine o_move rfl rfl ?_
 refine o_yes rfl rfl rfl ?_
 refine o_bin rfl rfl rfl b_seql ?_
 refine l_eq (t := 30) (v' := .bool true) rfl (show _ = Value.bool true from by rw [hn20]; simp) ?_
 refine o_pick_true rfl rfl rfl ?_
 refine o_move rfl rfl ?_
 refine o_yes rfl rfl rfl ?_
 refine o_move rfl rfl ?_
 refine l_eq (t := 33) (v' := .bool true) rfl (show _ = Value.bool true from by rw [hk20]; first | done | rfl) ?_
 refine o_pick_true rfl rfl rfl ?_
 refine o_move rfl rfl ?_
 refine o_yes rfl rfl rfl ?_
 refine o_move rfl rfl ?_
 refine o_yes rfl rfl rfl ?_
 refine o_call rfl cal24 rfl (tlen_A) ?_
 rintro _ _ ⟨rfl, rfl⟩
 refine o_yes rfl rfl rfl ?_
 refine o_bin rfl rfl rfl b_eql ?_
 refine l_eq (t := 38) (v' := .bool true) rfl (show _ = Value.bool true from by rw [show (ins ItA.f_key strlt (⟨⟨#[98]⟩, 3⟩ : ItA) (ins ItA.f_key strlt (⟨⟨#[97]⟩, 2⟩ : ItA) (ins ItA.f_key strlt (⟨⟨#[98]⟩, 1⟩ : ItA) []))) = [⟨s97, 2⟩, ⟨s98, 3⟩] from sp3]; rfl) ?_
 refine o_pick_true rfl rfl rfl ?_
 refine o_assign rfl rfl ?_
 refine l_nil ?_
 refine q_then ?_
 refine c_ret ?_
 refine q_conv (fun w S => S.tail) ?_
 exact f_ret (r_one rfl rfl) (⟨rfl, rfl⟩) (fun w S => S)

end Go.Proofs.Ytlbggbjekpfokaa
