/- Printed by eng2.py out of 18/spec.py. -/
import Derived.Test.YtoigakfglgdjdaaReadp
import Derived.Test.YtoigakfglgdjdaaEye
set_option linter.unusedVariables false
set_option linter.unusedSimpArgs false
set_option maxRecDepth 10000
namespace Go.Proofs.Ytoigakfglgdjdaa
open Go.RowKit Classical
theorem EyeOk.next {W : World} {a ay ay' : Option Addr} {bs ys ys' : List UInt8} {i cy cy' u : Nat} (h : EyeOk W a bs i ys ay cy) (h' : EyeOk W a bs (i + u) ys' ay' cy') : ys' = ys.drop u := by rw [h'.is, h.is, List.drop_drop]
theorem num_ {W : World} {F : List Res} {k i : Nat} {bs ys : List UInt8} {a ay : Option Addr} {c cy : Nat} (ok : EyeOk W a bs i ys ay cy) : CS Try.prog 30 #[.agg #[.pointer (some ⟨k, 0, none⟩)]] W (blk k (.cells #[.slice ay (ys).length cy] 85 (0, 0)) :: row e8.T e8.sz a (bs).length c (flat e8 bs) :: F) (fun r L' => ∃ (ys' : List UInt8) (ay' : Option Addr) (cy' : Nat), EyeOk W a bs (i + (numR 0 0 ys).2.2) ys' ay' cy' ∧ r = .int .u64 ((numR 0 0 ys).1 : Int) ∧ L' = blk k (.cells #[.slice ay' (ys').length cy'] 85 (0, 0)) :: row e8.T e8.sz a (bs).length c (flat e8 bs) :: F) := by
 refine f_door (l0 := [(0, .agg #[.pointer (some ⟨k, 0, none⟩)])]) Try.func30 Try.ntmps30 rfl rfl rfl ?_
 refine c_seq ?_
 refine c_region ?_
 refine o_box rfl rfl fun b1 => ?_
 refine o_assign rfl rfl ?_
 refine l_nil ?_
 refine q_then ?_
 refine c_seq ?_
 refine c_region ?_
 refine o_fieldAddr (q := ⟨b1, 0, none⟩) rfl rfl Try.underlying69 rfl ti66 rfl ?_
 refine o_load1 rfl rfl Try.underlying66 rfl (rd_mem 0 rfl rfl) ?_
 refine l_f2 ?_
 refine l_f2 ?_
 refine o_call rfl cal39 rfl (eyeNum ok) ?_
 rintro _ _ ⟨ys8, ay8, cy8, ok8, rfl, rfl⟩
 have dr8 : ys8 = ys.drop (numR 0 0 ys).2.2 := EyeOk.next ok ok8
 refine o_move rfl rfl ?_
 refine o_extract rfl rfl rfl ?_
 refine o_extract rfl rfl rfl ?_
 refine o_assign rfl rfl ?_
 refine o_assign rfl rfl ?_
 refine l_nil ?_
 refine q_then ?_
 refine c_seq ?_
 refine c_region ?_
 refine o_move rfl rfl ?_
 refine o_assign rfl rfl ?_
 refine l_nil ?_
 refine q_then ?_
 refine c_ret ?_
 refine q_conv (fun w S => (S.perm p2).tail) ?_
 exact f_ret (r_one rfl rfl) (⟨_, _, _, ok8, rfl, rfl⟩) (fun w S => S)

theorem small_ {W : World} {F : List Res} {k i : Nat} {bs ys : List UInt8} {a ay : Option Addr} {c cy : Nat} (ok : EyeOk W a bs i ys ay cy) : CS Try.prog 29 #[.agg #[.pointer (some ⟨k, 0, none⟩)]] W (blk k (.cells #[.slice ay (ys).length cy] 85 (0, 0)) :: row e8.T e8.sz a (bs).length c (flat e8 bs) :: F) (fun r L' => ∃ (ys' : List UInt8) (ay' : Option Addr) (cy' : Nat), EyeOk W a bs (i + (numR 0 0 ys).2.2) ys' ay' cy' ∧ r = .int .i64 ((min (numR 0 0 ys).1 2147483647 : Nat) : Int) ∧ L' = blk k (.cells #[.slice ay' (ys').length cy'] 85 (0, 0)) :: row e8.T e8.sz a (bs).length c (flat e8 bs) :: F) := by
 refine f_door (l0 := [(0, .agg #[.pointer (some ⟨k, 0, none⟩)])]) Try.func29 Try.ntmps29 rfl rfl rfl ?_
 refine c_seq ?_
 refine c_region ?_
 refine o_box rfl rfl fun b1 => ?_
 refine o_assign rfl rfl ?_
 refine l_nil ?_
 refine q_then ?_
 refine c_seq ?_
 refine c_region ?_
 refine o_loadn (vs := [_]) rfl rfl Try.underlying69 rfl ti69 (rdn_lit 0 rfl rfl) ?_
 refine l_f2 ?_
 refine l_f2 ?_
 refine o_call rfl cal30 rfl (num_ ok) ?_
 rintro _ _ ⟨ys4, ay4, cy4, ok4, rfl, rfl⟩
 have dr4 : ys4 = ys.drop (numR 0 0 ys).2.2 := EyeOk.next ok ok4
 refine o_min rfl rfl rfl Try.underlying23 ?_
 refine o_int rfl rfl Try.underlying23 Try.underlying3 (show IntKind.i64.wrap (min ((numR 0 0 ys).1 : Int) 2147483647) = ((min (numR 0 0 ys).1 2147483647 : Nat) : Int) from by rw [wrap_i64 (by omega) (by omega)]; omega) ?_
 refine o_assign rfl rfl ?_
 refine l_nil ?_
 refine q_then ?_
 refine c_ret ?_
 refine q_conv (fun w S => (S.perm p2).tail) ?_
 exact f_ret (r_one rfl rfl) (⟨_, _, _, ok4, rfl, rfl⟩) (fun w S => S)

theorem text_ {W : World} {F : List Res} {k i : Nat} {bs ys : List UInt8} {a ay : Option Addr} {c cy : Nat} (ok : EyeOk W a bs i ys ay cy) : CS Try.prog 31 #[.agg #[.pointer (some ⟨k, 0, none⟩)]] W (blk k (.cells #[.slice ay (ys).length cy] 85 (0, 0)) :: row e8.T e8.sz a (bs).length c (flat e8 bs) :: F) (fun r L' => ∃ (ys' : List UInt8) (ay' : Option Addr) (cy' : Nat), EyeOk W a bs (i + (textR ys).2.2) ys' ay' cy' ∧ r = .string (bts (textR ys).1) ∧ L' = blk k (.cells #[.slice ay' (ys').length cy'] 85 (0, 0)) :: row e8.T e8.sz a (bs).length c (flat e8 bs) :: F) := by
 refine f_door (l0 := [(0, .agg #[.pointer (some ⟨k, 0, none⟩)])]) Try.func31 Try.ntmps31 rfl rfl rfl ?_
 refine c_seq ?_
 refine c_region ?_
 refine o_box rfl rfl fun b1 => ?_
 refine o_assign rfl rfl ?_
 refine l_nil ?_
 refine q_then ?_
 refine c_seq ?_
 refine c_region ?_
 refine o_fieldAddr (q := ⟨b1, 0, none⟩) rfl rfl Try.underlying69 rfl ti66 rfl ?_
 refine o_load1 rfl rfl Try.underlying66 rfl (rd_mem 0 rfl rfl) ?_
 refine l_f2 ?_
 refine l_f2 ?_
 refine o_call rfl cal40 rfl (eyeText ok) ?_
 rintro _ _ ⟨out8, ys8, ay8, cy8, a8, c8, hout8, ok8, rfl, rfl⟩
 have dr8 : ys8 = ys.drop (textR ys).2.2 := EyeOk.next ok ok8
 refine o_move rfl rfl ?_
 refine o_extract rfl rfl rfl ?_
 refine o_extract rfl rfl rfl ?_
 refine o_assign rfl rfl ?_
 refine o_assign rfl rfl ?_
 refine l_nil ?_
 refine q_then ?_
 refine c_seq ?_
 refine c_region ?_
 refine o_move rfl rfl ?_
 refine o_bytesStr (e := e8) rfl rfl rfl Try.underlying28 Try.underlying5 Try.underlying9 (rds_own e8_ok 0 rfl) ?_
 refine o_assign rfl rfl ?_
 refine l_nil ?_
 refine q_then ?_
 refine c_ret ?_
 refine q_conv (fun w S => S.tail) ?_
 refine q_conv (fun w S => (S.perm p2).tail) ?_
 exact f_ret (r_one rfl rfl) (⟨_, _, _, ok8, by rw [hout8], rfl⟩) (fun w S => S)

end Go.Proofs.Ytoigakfglgdjdaa
