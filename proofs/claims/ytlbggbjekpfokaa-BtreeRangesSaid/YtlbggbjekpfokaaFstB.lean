/- Printed by eng2.py out of 02/spec.py. -/
import Derived.Test.YtlbggbjekpfokaaTreB
set_option linter.unusedVariables false
set_option linter.unusedSimpArgs false
set_option maxRecDepth 10000
namespace Go.Proofs.Ytlbggbjekpfokaa
open Go.RowKit Classical
def FirstOk_B (ys : List ItB) (nk : Int) (ok : Bool) : Prop := match ys with | [] => ok = false ∧ nk = (0 : Int) | y :: _ => ok = true ∧ nk = y.f_key
theorem first_B {W : World} {F : List Res} {t : Nat} {xs : List ItB} {k : Int} : CS Try.prog 16 #[.pointer (some ⟨t, 0, none⟩), .int .i64 k] W (treeR e_ItB eN72 76 78 ItB.f_key ilt t xs :: F) (fun r L' => ∃ (nk : Int) (ok : Bool), FirstOk_B (sel ItB.f_key ilt (some k) xs) nk ok ∧ r = .tuple #[.int .i64 nk, .bool ok] ∧ L' = treeR e_ItB eN72 76 78 ItB.f_key ilt t xs :: F) := by
 refine f_door (l0 := [(0, .pointer (some ⟨t, 0, none⟩)), (1, .int .i64 k)]) Try.func16 Try.ntmps16 rfl rfl rfl ?_
 refine c_seq ?_
 refine c_region ?_
 refine o_alloc rfl ti3 fun b4 => ?_
 refine o_alloc rfl ti4 fun b5 => ?_
 refine l_nil ?_
 refine q_then ?_
 refine c_seq ?_
 refine c_seq ?_
 refine c_region ?_
 refine o_move rfl rfl ?_
 refine o_move rfl rfl ?_
 refine o_call rfl cal30 rfl (from_B (t := t) (k := k)) ?_
 rintro _ _ ⟨kt9, kk9, rfl, rfl⟩
 refine l_nil ?_
 refine q_then ?_
 refine c_block ?_
 refine c_conv (fun w S => S.perm p2) ?_
 refine c_conv (fun w S => S.perm p3) ?_
 refine c_conv (fun w S => S.perm p4) ?_
 refine c_conv (fun w S => S.perm p4) ?_
 refine c_conv (fun w S => S.perm p4) ?_
 refine c_rangeG (Li := [blk kt9 (.cells #[.pointer (some ⟨t, 0, none⟩)] 43 (0, 0)), blk kk9 (.cells #[.int .i64 k] 3 (0, 0)), treeR e_ItB eN72 76 78 ItB.f_key ilt t xs]) (L0 := blk b4 (.cells #[.int .i64 0] 3 (0, 0)) :: blk b5 (.cells #[.bool false] 4 (0, 0)) :: F) (fun pre L => (pre = []) ∧ L = blk b4 (.cells #[.int .i64 0] 3 (0, 0)) :: blk b5 (.cells #[.bool false] 4 (0, 0)) :: F) (fun c L => (c = .ret ∧ ∃ z : ItB, (∃ zs, sel ItB.f_key ilt (some k) xs = z :: zs) ∧ L = blk b4 (.cells #[.int .i64 z.f_key] 3 (0, 0)) :: blk b5 (.cells #[.bool true] 4 (0, 0)) :: F)) rfl rfl cal47 rfl (fun _ => rfl) (fromIter_B) (fun w S => S) ⟨rfl, rfl⟩ ?_ ?_ ?_
 · -- round
  rintro Lxg1 kg1 rg1 Dg1 pre x _ hrg1 ⟨hp0, rfl⟩ hpre
  try dsimp only at *
  refine c_conv (L' := blk kg1 (.loop rg1) :: Dg1 :: blk b4 (.cells #[.int .i64 0] 3 (0, 0)) :: blk b5 (.cells #[.bool false] 4 (0, 0)) :: (Lxg1 ++ F)) (fun w S => S.perm (rgP Lxg1 [blk b4 (.cells #[.int .i64 0] 3 (0, 0)), blk b5 (.cells #[.bool false] 4 (0, 0))] F)) ?_
  refine c_region ?_
  refine o_assign rfl rfl ?_
  refine l_nil ?_
  refine q_begin rfl hrg1 ?_
  refine c_block ?_
  refine c_seq ?_
  refine c_region ?_
  refine o_move rfl rfl ?_
  refine l_f2 ?_
  refine o_store1 rfl rfl rfl ti3 rfl rfl ?_
  refine l_f3 ?_
  refine o_store1 rfl rfl rfl ti4 rfl rfl ?_
  refine l_nil ?_
  refine q_then ?_
  refine c_ret ?_
  refine q_block_ret ?_
  refine q_conv (fun w S => S.perm p1) ?_
  refine q_conv (fun w S => S.perm p3) ?_
  refine q_conv (fun w S => S.perm p3) ?_
  exact q_roundRet (.inr ⟨rfl, _, _, ⟨rfl, x, by (subst hp0; obtain ⟨zs, hzs⟩ := hpre; exact ⟨zs, by rw [← hzs]; rfl⟩), rfl⟩, rfl⟩) (fun w S => S.perm (rgP Lxg1 [blk b4 (.cells #[.int .i64 x.f_key] 3 (0, 0)), blk b5 (.cells #[.bool true] 4 (0, 0))] F).symm)
 · -- all have come
  rintro dg1 _ ⟨hp0, rfl⟩
  try dsimp only at *
  refine q_block ?_
  refine q_then ?_
  refine c_seq ?_
  refine c_region ?_
  refine o_load1 rfl rfl Try.underlying3 rfl (rd_mem 4 rfl rfl) ?_
  refine l_f4 ?_
  refine o_store1 rfl rfl rfl ti3 rfl rfl ?_
  refine l_f5 ?_
  refine o_store1 rfl rfl rfl ti4 rfl rfl ?_
  refine l_nil ?_
  refine q_then ?_
  refine c_ret ?_
  refine q_conv (fun w S => S.perm p5) ?_
  refine q_conv (fun w S => S.perm p5) ?_
  refine q_conv (fun w S => S.perm p5) ?_
  refine q_conv (fun w S => S.perm p4) ?_
  refine q_conv (fun w S => S.perm p4) ?_
  refine q_conv (fun w S => S.perm p5) ?_
  refine f_retMq [dg1] (.inl rfl) rfl (fun w S => S) (rs_2 rfl (rs_cell rfl Try.underlying3 rfl (rd_mem 1 rfl rfl)) (rs_cell rfl Try.underlying4 rfl (rd_mem 0 rfl rfl))) (fun w S => ?_)
  replace S := S.tail
  replace S := S.tail
  replace S := S.tail
  replace S := S.tail
  exact ⟨_, ⟨(0 : Int), false, by rw [hp0]; exact ⟨rfl, rfl⟩, rfl, rfl⟩, (fun w S => S) w S⟩
 · -- a round has left
  rintro dg1 cg1 _ (⟨rfl, z, ⟨zs, hzs⟩, rfl⟩)
  · -- ret
   try dsimp only at *
   refine c_ret ?_
   refine q_block_ret ?_
   refine q_pass_ret ?_
   refine f_retMq [dg1] (.inl rfl) rfl (fun w S => S) (rs_2 rfl (rs_cell rfl Try.underlying3 rfl (rd_mem 3 rfl rfl)) (rs_cell rfl Try.underlying4 rfl (rd_mem 4 rfl rfl))) (fun w S => ?_)
   replace S := S.tail
   replace S := S.tail
   replace S := (S.perm p1).tail
   replace S := (S.perm p1).tail
   exact ⟨_, ⟨z.f_key, true, by rw [hzs]; exact ⟨rfl, rfl⟩, rfl, rfl⟩, (fun w S => S) w S⟩

theorem keys_B {W : World} {F : List Res} {t : Nat} {xs : List ItB} (hx : xs.length ≤ 1000000) : CS Try.prog 15 #[.pointer (some ⟨t, 0, none⟩)] W (treeR e_ItB eN72 76 78 ItB.f_key ilt t xs :: F) (fun r L' => ∃ (a' : Option Addr) (c' : Nat), r = .slice a' (xs.map ItB.f_key).length c' ∧ L' = row e_I.T e_I.sz a' ((xs.map ItB.f_key)).length c' (flat e_I (xs.map ItB.f_key)) :: treeR e_ItB eN72 76 78 ItB.f_key ilt t xs :: F) := by
 refine f_door (l0 := [(0, .pointer (some ⟨t, 0, none⟩))]) Try.func15 Try.ntmps15 rfl rfl rfl ?_
 refine c_seq ?_
 refine c_region ?_
 refine o_alloc rfl ti42 fun b2 => ?_
 refine l_nil ?_
 refine q_then ?_
 refine c_seq ?_
 refine c_seq ?_
 refine c_nilrow e_I ?_
 refine c_region ?_
 refine o_move rfl rfl ?_
 refine o_call rfl cal29 rfl (all_B (t := t)) ?_
 rintro _ _ ⟨kt5, rfl, rfl⟩
 refine l_nil ?_
 refine q_then ?_
 refine c_block ?_
 refine c_conv (fun w S => S.perm p1) ?_
 refine c_conv (fun w S => S.perm p2) ?_
 refine c_conv (fun w S => S.perm p3) ?_
 refine c_conv (fun w S => S.perm p3) ?_
 refine c_rangeG (Li := [blk kt5 (.cells #[.pointer (some ⟨t, 0, none⟩)] 43 (0, 0)), treeR e_ItB eN72 76 78 ItB.f_key ilt t xs]) (L0 := blk b2 (.cells #[.slice none ((([] : List ItB).map ItB.f_key)).length 0] 42 (0, 0)) :: row e_I.T e_I.sz none ((([] : List ItB).map ItB.f_key)).length 0 (flat e_I (([] : List ItB).map ItB.f_key)) :: F) (fun pre L => ∃ a7 : Option Addr, ∃ c7 : Nat, (True) ∧ L = blk b2 (.cells #[.slice a7 ((pre.map ItB.f_key)).length c7] 42 (0, 0)) :: row e_I.T e_I.sz a7 ((pre.map ItB.f_key)).length c7 (flat e_I (pre.map ItB.f_key)) :: F) (fun c L => False) rfl rfl cal45 rfl (fun _ => rfl) (allIter_B) (fun w S => S) ⟨none, 0, trivial, rfl⟩ ?_ ?_ ?_
 · -- round
  rintro Lxg1 kg1 rg1 Dg1 pre x _ hrg1 ⟨a7, c7, _, rfl⟩ hpre
  try dsimp only at *
  have hpl := hpre.length_le
  rw [List.length_append] at hpl
  simp only [List.length_cons, List.length_nil] at hpl
  have hml : (pre.map ItB.f_key).length = pre.length := List.length_map _
  refine c_conv (L' := blk kg1 (.loop rg1) :: Dg1 :: blk b2 (.cells #[.slice a7 ((pre.map ItB.f_key)).length c7] 42 (0, 0)) :: row e_I.T e_I.sz a7 ((pre.map ItB.f_key)).length c7 (flat e_I (pre.map ItB.f_key)) :: (Lxg1 ++ F)) (fun w S => S.perm (rgP Lxg1 [blk b2 (.cells #[.slice a7 ((pre.map ItB.f_key)).length c7] 42 (0, 0)), row e_I.T e_I.sz a7 ((pre.map ItB.f_key)).length c7 (flat e_I (pre.map ItB.f_key))] F)) ?_
  refine c_region ?_
  refine o_assign rfl rfl ?_
  refine l_nil ?_
  refine q_begin rfl hrg1 ?_
  refine c_block ?_
  refine c_region ?_
  refine o_load1 rfl rfl Try.underlying42 rfl (rd_mem 2 rfl rfl) ?_
  refine o_move rfl rfl ?_
  refine o_lit e_I_ok rfl Try.underlying42 rfl rfl rfl (lit_ok rfl) [x.f_key] rfl rfl fun a10 => ?_
  refine l_f4 ?_
  refine o_append e_I_ok rfl rfl rfl Try.underlying42 (rds_own e_I_ok 1 rfl) (by show (_ + _) * _ ≤ _; rw [hml]; simp only [List.length_cons, List.length_nil]; omega) (by rw [hml]; simp only [List.length_cons, List.length_nil]; omega) fun a11 c11 => ?_
  refine l_f1 ?_
  refine l_drop ?_
  refine l_f3 ?_
  refine o_store1 rfl rfl rfl ti42 rfl rfl ?_
  refine l_nil ?_
  refine q_block ?_
  refine q_conv (L' := blk b2 (.cells #[.slice a11 (((pre ++ [x]).map ItB.f_key)).length c11] 42 (0, 0)) :: row e_I.T e_I.sz a11 (((pre ++ [x]).map ItB.f_key)).length c11 (flat e_I ((pre ++ [x]).map ItB.f_key)) :: _) (fun w S => by rw [show (pre.map ItB.f_key) ++ [x.f_key] = ((pre ++ [x]).map ItB.f_key) from by rw [List.map_append]; rfl] at S; exact S) ?_
  refine q_conv (fun w S => S.perm p1) ?_
  refine q_conv (fun w S => S.perm p1) ?_
  refine q_conv (fun w S => S.perm p3) ?_
  refine q_conv (fun w S => S.perm p3) ?_
  exact q_roundOn (.inl ⟨rfl, _, ⟨a11, c11, by trivial, rfl⟩, rfl⟩) (fun w S => S.perm (rgP Lxg1 [blk b2 (.cells #[.slice a11 (((pre ++ [x]).map ItB.f_key)).length c11] 42 (0, 0)), row e_I.T e_I.sz a11 (((pre ++ [x]).map ItB.f_key)).length c11 (flat e_I ((pre ++ [x]).map ItB.f_key))] F).symm)
 · -- all have come
  rintro dg1 _ ⟨a7, c7, _, rfl⟩
  try dsimp only at *
  refine q_block ?_
  refine q_then ?_
  refine c_seq ?_
  refine c_region ?_
  refine o_load1 rfl rfl Try.underlying42 rfl (rd_mem 3 rfl rfl) ?_
  refine l_f3 ?_
  refine o_store1 rfl rfl rfl ti42 rfl rfl ?_
  refine l_nil ?_
  refine q_then ?_
  refine c_ret ?_
  refine q_conv (fun w S => S.perm p4) ?_
  refine q_conv (fun w S => S.perm p4) ?_
  refine q_conv (fun w S => S.perm p4) ?_
  refine q_conv (fun w S => S.perm p3) ?_
  refine q_conv (fun w S => S.perm p4) ?_
  refine f_retMq [dg1] (.inl rfl) rfl (fun w S => S) (rs_1 rfl (rs_cell rfl Try.underlying42 rfl (rd_mem 0 rfl rfl))) (fun w S => ?_)
  replace S := S.tail
  replace S := S.tail
  replace S := S.perm p1
  exact ⟨_, ⟨a7, c7, rfl, rfl⟩, (fun w S => S) w S⟩
 · -- a round has left
  exact fun _ _ _ h => h.elim

end Go.Proofs.Ytlbggbjekpfokaa
