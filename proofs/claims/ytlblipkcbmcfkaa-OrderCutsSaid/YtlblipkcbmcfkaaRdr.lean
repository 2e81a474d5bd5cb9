/- Printed by eng2.py out of 09a/spec.py. -/
import Derived.Test.YtlblipkcbmcfkaaEye
import Derived.Test.YtlblipkcbmcfkaaORdp
set_option linter.unusedVariables false
set_option linter.unusedSimpArgs false
set_option maxRecDepth 10000
namespace Go.Proofs.Ytlblipkcbmcfkaa
open Go.RowKit Classical
theorem EyeOk.next {W : World} {a ay ay' : Option Addr} {bs ys ys' : List UInt8} {i cy cy' u : Nat} (h : EyeOk W a bs i ys ay cy) (h' : EyeOk W a bs (i + u) ys' ay' cy') : ys' = ys.drop u := by rw [h'.is, h.is, List.drop_drop]
theorem rnum_ {W : World} {F : List Res} {k i : Nat} {bs ys : List UInt8} {a ay : Option Addr} {c cy : Nat} (ok : EyeOk W a bs i ys ay cy) : CS Try.prog 61 #[.agg #[.pointer (some ⟨k, 0, none⟩)]] W (blk k (.cells #[.slice ay (ys).length cy] 98 (0, 0)) :: row e8.T e8.sz a (bs).length c (flat e8 bs) :: F) (fun r L' => ∃ (ys' : List UInt8) (ay' : Option Addr) (cy' : Nat), EyeOk W a bs (i + (numR 0 0 ys).2.2) ys' ay' cy' ∧ r = .int .u64 ((numR 0 0 ys).1 : Int) ∧ L' = blk k (.cells #[.slice ay' (ys').length cy'] 98 (0, 0)) :: row e8.T e8.sz a (bs).length c (flat e8 bs) :: F) := by
 refine f_door (l0 := [(0, .agg #[.pointer (some ⟨k, 0, none⟩)])]) Try.func61 Try.ntmps61 rfl rfl rfl ?_
 refine c_seq ?_
 refine c_region ?_
 refine o_box rfl rfl fun b1 => ?_
 refine o_assign rfl rfl ?_
 refine l_nil ?_
 refine q_then ?_
 refine c_seq ?_
 refine c_region ?_
 refine o_fieldAddr (q := ⟨b1, 0, none⟩) rfl rfl Try.underlying75 rfl ti72 rfl ?_
 refine o_load1 rfl rfl Try.underlying72 rfl (rd_mem 0 rfl rfl) ?_
 refine l_f2 ?_
 refine l_f2 ?_
 refine o_call rfl cal83 rfl (eyeNum ok) ?_
 rintro _ _ ⟨ys8, ay8, cy8, ok8, rfl, rfl⟩
 have dr8 : ys8 = ys.drop (numR 0 0 ys).2.2 := EyeOk.next ok ok8
 refine o_move rfl rfl ?_
 refine o_extract rfl rfl rfl ?_
 refine o_extract rfl rfl rfl ?_
 refine o_assign rfl rfl ?_
 refine o_assign rfl rfl ?_
 refine l_nil ?_
 refine q_then ?_
 refine c_seq ?_
 refine c_region ?_
 refine o_move rfl rfl ?_
 refine o_assign rfl rfl ?_
 refine l_nil ?_
 refine q_then ?_
 refine c_ret ?_
 refine q_conv (fun w S => (S.perm p2).tail) ?_
 exact f_ret (r_one rfl rfl) (⟨_, _, _, ok8, rfl, rfl⟩) (fun w S => S)

theorem rsmall_ {W : World} {F : List Res} {k i : Nat} {bs ys : List UInt8} {a ay : Option Addr} {c cy : Nat} (ok : EyeOk W a bs i ys ay cy) : CS Try.prog 60 #[.agg #[.pointer (some ⟨k, 0, none⟩)]] W (blk k (.cells #[.slice ay (ys).length cy] 98 (0, 0)) :: row e8.T e8.sz a (bs).length c (flat e8 bs) :: F) (fun r L' => ∃ (ys' : List UInt8) (ay' : Option Addr) (cy' : Nat), EyeOk W a bs (i + (numR 0 0 ys).2.2) ys' ay' cy' ∧ r = .int .i64 (smR ys) ∧ L' = blk k (.cells #[.slice ay' (ys').length cy'] 98 (0, 0)) :: row e8.T e8.sz a (bs).length c (flat e8 bs) :: F) := by
 refine f_door (l0 := [(0, .agg #[.pointer (some ⟨k, 0, none⟩)])]) Try.func60 Try.ntmps60 rfl rfl rfl ?_
 refine c_seq ?_
 refine c_region ?_
 refine o_box rfl rfl fun b1 => ?_
 refine o_assign rfl rfl ?_
 refine l_nil ?_
 refine q_then ?_
 refine c_seq ?_
 refine c_region ?_
 refine o_fieldAddr (q := ⟨b1, 0, none⟩) rfl rfl Try.underlying75 rfl ti72 rfl ?_
 refine o_load1 rfl rfl Try.underlying72 rfl (rd_mem 0 rfl rfl) ?_
 refine l_f2 ?_
 refine l_f2 ?_
 refine o_call rfl cal83 rfl (eyeNum ok) ?_
 rintro _ _ ⟨ys8, ay8, cy8, ok8, rfl, rfl⟩
 have dr8 : ys8 = ys.drop (numR 0 0 ys).2.2 := EyeOk.next ok ok8
 refine o_move rfl rfl ?_
 refine o_extract rfl rfl rfl ?_
 refine o_extract rfl rfl rfl ?_
 refine o_assign rfl rfl ?_
 refine o_assign rfl rfl ?_
 refine l_nil ?_
 refine q_then ?_
 refine c_seq ?_
 refine c_region ?_
 refine o_move rfl rfl ?_
 refine o_min rfl rfl rfl Try.underlying22 ?_
 refine o_int rfl rfl Try.underlying22 Try.underlying3 (show IntKind.i64.wrap (min ((numR 0 0 ys).1 : Int) 2147483647) = smR ys from by unfold smR; rw [wrap_i64 (by omega) (by omega)]; omega) ?_
 refine o_assign rfl rfl ?_
 refine l_nil ?_
 refine q_then ?_
 refine c_ret ?_
 refine q_conv (fun w S => (S.perm p2).tail) ?_
 exact f_ret (r_one rfl rfl) (⟨_, _, _, ok8, rfl, rfl⟩) (fun w S => S)

theorem rtext_ {W : World} {F : List Res} {k i : Nat} {bs ys : List UInt8} {a ay : Option Addr} {c cy : Nat} (ok : EyeOk W a bs i ys ay cy) : CS Try.prog 63 #[.agg #[.pointer (some ⟨k, 0, none⟩)]] W (blk k (.cells #[.slice ay (ys).length cy] 98 (0, 0)) :: row e8.T e8.sz a (bs).length c (flat e8 bs) :: F) (fun r L' => ∃ (out ys' : List UInt8) (ay' : Option Addr) (cy' : Nat) (a2 : Option Addr) (c2 : Nat), out = (textR ys).1 ∧ EyeOk W a bs (i + (textR ys).2.2) ys' ay' cy' ∧ r = .slice a2 out.length c2 ∧ L' = row e8.T e8.sz a2 (out).length c2 (flat e8 out) :: blk k (.cells #[.slice ay' (ys').length cy'] 98 (0, 0)) :: row e8.T e8.sz a (bs).length c (flat e8 bs) :: F) := by
 refine f_door (l0 := [(0, .agg #[.pointer (some ⟨k, 0, none⟩)])]) Try.func63 Try.ntmps63 rfl rfl rfl ?_
 refine c_seq ?_
 refine c_region ?_
 refine o_box rfl rfl fun b1 => ?_
 refine o_assign rfl rfl ?_
 refine l_nil ?_
 refine q_then ?_
 refine c_seq ?_
 refine c_region ?_
 refine o_fieldAddr (q := ⟨b1, 0, none⟩) rfl rfl Try.underlying75 rfl ti72 rfl ?_
 refine o_load1 rfl rfl Try.underlying72 rfl (rd_mem 0 rfl rfl) ?_
 refine l_f2 ?_
 refine l_f2 ?_
 refine o_call rfl cal84 rfl (eyeText ok) ?_
 rintro _ _ ⟨out8, ys8, ay8, cy8, a8, c8, hout8, ok8, rfl, rfl⟩
 have dr8 : ys8 = ys.drop (textR ys).2.2 := EyeOk.next ok ok8
 refine o_move rfl rfl ?_
 refine o_extract rfl rfl rfl ?_
 refine o_extract rfl rfl rfl ?_
 refine o_assign rfl rfl ?_
 refine o_assign rfl rfl ?_
 refine l_nil ?_
 refine q_then ?_
 refine c_seq ?_
 refine c_region ?_
 refine o_move rfl rfl ?_
 refine o_assign rfl rfl ?_
 refine l_nil ?_
 refine q_then ?_
 refine c_ret ?_
 refine q_conv (fun w S => (S.perm p3).tail) ?_
 exact f_ret (r_one rfl rfl) (⟨out8, _, _, _, _, _, hout8, ok8, rfl, rfl⟩) (fun w S => S)

end Go.Proofs.Ytlblipkcbmcfkaa
