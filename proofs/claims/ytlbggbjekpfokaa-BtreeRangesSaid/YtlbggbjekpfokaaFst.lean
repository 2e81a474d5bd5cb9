/- Printed by eng2.py out of 02/spec.py. -/
import Derived.Test.YtlbggbjekpfokaaTre
set_option linter.unusedVariables false
set_option linter.unusedSimpArgs false
set_option maxRecDepth 10000
namespace Go.Proofs.Ytlbggbjekpfokaa
open Go.RowKit Classical
def FirstOk_A (ys : List ItA) (nk : ByteArray) (ok : Bool) : Prop := match ys with | [] => ok = false ∧ nk = ByteArray.empty | y :: _ => ok = true ∧ nk = y.f_key
theorem first_A {W : World} {F : List Res} {t : Nat} {xs : List ItA} {k : ByteArray} : CS Try.prog 23 #[.pointer (some ⟨t, 0, none⟩), .string k] W (treeR e_ItA eN57 61 63 ItA.f_key strlt t xs :: F) (fun r L' => ∃ (nk : ByteArray) (ok : Bool), FirstOk_A (sel ItA.f_key strlt (some k) xs) nk ok ∧ r = .tuple #[.string nk, .bool ok] ∧ L' = treeR e_ItA eN57 61 63 ItA.f_key strlt t xs :: F) := by
 refine f_door (l0 := [(0, .pointer (some ⟨t, 0, none⟩)), (1, .string k)]) Try.func23 Try.ntmps23 rfl rfl rfl ?_
 refine c_seq ?_
 refine c_region ?_
 refine o_alloc rfl ti9 fun b4 => ?_
 refine o_alloc rfl ti4 fun b5 => ?_
 refine l_nil ?_
 refine q_then ?_
 refine c_seq ?_
 refine c_seq ?_
 refine c_region ?_
 refine o_move rfl rfl ?_
 refine o_move rfl rfl ?_
 refine o_call rfl cal12 rfl (from_A (t := t) (k := k)) ?_
 rintro _ _ ⟨kt9, kk9, rfl, rfl⟩
 refine l_nil ?_
 refine q_then ?_
 refine c_block ?_
 refine c_conv (fun w S => S.perm p2) ?_
 refine c_conv (fun w S => S.perm p3) ?_
 refine c_conv (fun w S => S.perm p4) ?_
 refine c_conv (fun w S => S.perm p4) ?_
 refine c_conv (fun w S => S.perm p4) ?_
 refine c_rangeG (Li := [blk kt9 (.cells #[.pointer (some ⟨t, 0, none⟩)] 25 (0, 0)), blk kk9 (.cells #[.string k] 9 (0, 0)), treeR e_ItA eN57 61 63 ItA.f_key strlt t xs]) (L0 := blk b4 (.cells #[.string ByteArray.empty] 9 (0, 0)) :: blk b5 (.cells #[.bool false] 4 (0, 0)) :: F) (fun pre L => (pre = []) ∧ L = blk b4 (.cells #[.string ByteArray.empty] 9 (0, 0)) :: blk b5 (.cells #[.bool false] 4 (0, 0)) :: F) (fun c L => (c = .ret ∧ ∃ z : ItA, (∃ zs, sel ItA.f_key strlt (some k) xs = z :: zs) ∧ L = blk b4 (.cells #[.string z.f_key] 9 (0, 0)) :: blk b5 (.cells #[.bool true] 4 (0, 0)) :: F)) rfl rfl cal26 rfl (fun _ => rfl) (fromIter_A) (fun w S => S) ⟨rfl, rfl⟩ ?_ ?_ ?_
 · -- round
  rintro Lxg1 kg1 rg1 Dg1 pre x _ hrg1 ⟨hp0, rfl⟩ hpre
  try dsimp only at *
  refine c_conv (L' := blk kg1 (.loop rg1) :: Dg1 :: blk b4 (.cells #[.string ByteArray.empty] 9 (0, 0)) :: blk b5 (.cells #[.bool false] 4 (0, 0)) :: (Lxg1 ++ F)) (fun w S => S.perm (rgP Lxg1 [blk b4 (.cells #[.string ByteArray.empty] 9 (0, 0)), blk b5 (.cells #[.bool false] 4 (0, 0))] F)) ?_
  refine c_region ?_
  refine o_assign rfl rfl ?_
  refine l_nil ?_
  refine q_begin rfl hrg1 ?_
  refine c_block ?_
  refine c_seq ?_
  refine c_region ?_
  refine o_move rfl rfl ?_
  refine l_f2 ?_
  refine o_store1 rfl rfl rfl ti9 rfl rfl ?_
  refine l_f3 ?_
  refine o_store1 rfl rfl rfl ti4 rfl rfl ?_
  refine l_nil ?_
  refine q_then ?_
  refine c_ret ?_
  refine q_block_ret ?_
  refine q_conv (fun w S => S.perm p1) ?_
  refine q_conv (fun w S => S.perm p3) ?_
  refine q_conv (fun w S => S.perm p3) ?_
  exact q_roundRet (.inr ⟨rfl, _, _, ⟨rfl, x, by (subst hp0; obtain ⟨zs, hzs⟩ := hpre; exact ⟨zs, by rw [← hzs]; rfl⟩), rfl⟩, rfl⟩) (fun w S => S.perm (rgP Lxg1 [blk b4 (.cells #[.string x.f_key] 9 (0, 0)), blk b5 (.cells #[.bool true] 4 (0, 0))] F).symm)
 · -- all have come
  rintro dg1 _ ⟨hp0, rfl⟩
  try dsimp only at *
  refine q_block ?_
  refine q_then ?_
  refine c_seq ?_
  refine c_region ?_
  refine o_load1 rfl rfl Try.underlying9 rfl (rd_mem 4 rfl rfl) ?_
  refine l_f4 ?_
  refine o_store1 rfl rfl rfl ti9 rfl rfl ?_
  refine l_f5 ?_
  refine o_store1 rfl rfl rfl ti4 rfl rfl ?_
  refine l_nil ?_
  refine q_then ?_
  refine c_ret ?_
  refine q_conv (fun w S => S.perm p5) ?_
  refine q_conv (fun w S => S.perm p5) ?_
  refine q_conv (fun w S => S.perm p5) ?_
  refine q_conv (fun w S => S.perm p4) ?_
  refine q_conv (fun w S => S.perm p4) ?_
  refine q_conv (fun w S => S.perm p5) ?_
  refine f_retMq [dg1] (.inl rfl) rfl (fun w S => S) (rs_2 rfl (rs_cell rfl Try.underlying9 rfl (rd_mem 1 rfl rfl)) (rs_cell rfl Try.underlying4 rfl (rd_mem 0 rfl rfl))) (fun w S => ?_)
  replace S := S.tail
  replace S := S.tail
  replace S := S.tail
  replace S := S.tail
  exact ⟨_, ⟨ByteArray.empty, false, by rw [hp0]; exact ⟨rfl, rfl⟩, rfl, rfl⟩, (fun w S => S) w S⟩
 · -- a round has left
  rintro dg1 cg1 _ (⟨rfl, z, ⟨zs, hzs⟩, rfl⟩)
  · -- ret
   try dsimp only at *
   refine c_ret ?_
   refine q_block_ret ?_
   refine q_pass_ret ?_
   refine f_retMq [dg1] (.inl rfl) rfl (fun w S => S) (rs_2 rfl (rs_cell rfl Try.underlying9 rfl (rd_mem 3 rfl rfl)) (rs_cell rfl Try.underlying4 rfl (rd_mem 4 rfl rfl))) (fun w S => ?_)
   replace S := S.tail
   replace S := S.tail
   replace S := (S.perm p1).tail
   replace S := (S.perm p1).tail
   exact ⟨_, ⟨z.f_key, true, by rw [hzs]; exact ⟨rfl, rfl⟩, rfl, rfl⟩, (fun w S => S) w S⟩

end Go.Proofs.Ytlbggbjekpfokaa
