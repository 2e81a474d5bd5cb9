/- Printed by eng2.py out of 15/spec.py. -/
import Derived.Test.YteehongibjkjlaaPcs
set_option linter.unusedVariables false
set_option linter.unusedSimpArgs false
set_option maxRecDepth 10000
namespace Go.Proofs.Yteehongibjkjlaa
open Go.RowKit Classical
theorem pieces_ {W : World} {F : List Res} {log : List Order} {a : Option Addr} {c : Nat} {g : Int} : CS Try.prog 26 #[.slice a log.length c, .int .i64 g] W (F) (fun r L' => ∃ b k : Nat, r = .func (.func 37) #[] #[.pointer (some ⟨b, 0, none⟩), .pointer (some ⟨k, 0, none⟩)] ∧ L' = blk b (.cells #[.slice a (log).length c] 22 (0, 0)) :: blk k (.cells #[.int .i64 g] 3 (0, 0)) :: F) := by
 refine f_door (l0 := [(0, .slice a log.length c), (1, .int .i64 g)]) Try.func26 Try.ntmps26 rfl rfl rfl ?_
 refine c_seq ?_
 refine c_region ?_
 refine o_box rfl rfl fun b2 => ?_
 refine o_box rfl rfl fun b3 => ?_
 refine o_assign rfl rfl ?_
 refine l_nil ?_
 refine q_then ?_
 refine c_seq ?_
 refine c_region ?_
 refine o_makeFunc rfl rfl rfl ?_
 refine o_assign rfl rfl ?_
 refine l_nil ?_
 refine q_then ?_
 refine c_ret ?_
 refine q_conv (fun w S => S.perm p1) ?_
 exact f_ret (r_one rfl rfl) (⟨b2, b3, rfl, rfl⟩) (fun w S => S)

set_option maxHeartbeats 1000000 in
theorem appendSeq_ {W : World} {F : List Res} {g : Int} {b k : Nat} {log : List Order} {a : Option Addr} {c : Nat} (hs : SlR W e_Order a log) (ho : ∀ x ∈ log, ∀ L, OrdR W L x) (hc : log.length ≤ c ∧ c ≤ 9223372036854775807) (hl : log.length ≤ 40) (hsm : ∀ x ∈ log, OSmall x) : CS Try.prog 36 #[.slice none 0 0, .func (.func 37) #[] #[.pointer (some ⟨b, 0, none⟩), .pointer (some ⟨k, 0, none⟩)]] W (blk b (.cells #[.slice a (log).length c] 22 (0, 0)) :: blk k (.cells #[.int .i64 g] 3 (0, 0)) :: F) (fun r L' => ∃ (a' : Option Addr) (c' : Nat) (ps : List Item), DnP g log ps ∧ r = .slice a' ps.length c' ∧ L' = row e_Item.T e_Item.sz a' ps.length c' (flat e_Item ps) :: itsM ps :: F) := by
 refine f_door (l0 := [(0, .slice none 0 0), (1, .func (.func 37) #[] #[.pointer (some ⟨b, 0, none⟩), .pointer (some ⟨k, 0, none⟩)])]) Try.func36 Try.ntmps36 rfl rfl rfl ?_
 refine c_seq ?_
 refine c_region ?_
 refine o_box rfl rfl fun b2 => ?_
 refine o_assign rfl rfl ?_
 refine l_nil ?_
 refine q_then ?_
 refine c_seq ?_
 refine c_seq ?_
 refine c_region ?_
 refine o_move rfl rfl ?_
 refine l_nil ?_
 refine q_then ?_
 refine c_block ?_
 refine c_nilrow e_Item ?_
 refine c_conv (L' := itsM [] :: _) (fun w S => itsM_nil S) ?_
 refine c_conv (fun w S => S.perm p1) ?_
 refine c_conv (fun w S => S.perm p2) ?_
 refine c_conv (fun w S => S.perm p4) ?_
 refine c_conv (fun w S => S.perm p4) ?_
 refine c_rangeM (Li := [blk b (.cells #[.slice a (log).length c] 22 (0, 0)), blk k (.cells #[.int .i64 g] 3 (0, 0))]) (L0 := blk b2 (.cells #[.slice none (([] : List Item)).length 0] 27 (0, 0)) :: row e_Item.T e_Item.sz none (([] : List Item)).length 0 (flat e_Item ([] : List Item)) :: itsM [] :: F) (fun pre L => ∃ a : Option Addr, ∃ c' : Nat, (pre.length ≤ log.length) ∧ L = blk b2 (.cells #[.slice a (pre).length c'] 27 (0, 0)) :: row e_Item.T e_Item.sz a (pre).length c' (flat e_Item pre) :: itsM pre :: F) (fun c L => False) rfl rfl cal37 rfl (fun _ => rfl) (pieces_iter hs ho hc hl hsm) (fun w S => S) ⟨none, 0, Nat.zero_le _, rfl⟩ ?_ ?_ ?_
 · -- round
  rintro Lxg1 kg1 rg1 Dg1 pre x _ hrg1 ⟨a, c', hpl, rfl⟩ hpre
  try dsimp only at *
  obtain ⟨n, hn, hpn⟩ := hpre.pcs
  have hpl2 : pre.length + 1 ≤ log.length := by have h8 := hpn.len; have h9 := idx_le g log n; rw [List.length_append] at h8; simp only [List.length_cons, List.length_nil] at h8; omega
  refine c_conv (L' := blk kg1 (.loop rg1) :: Dg1 :: ordM x.ord :: blk b2 (.cells #[.slice a (pre).length c'] 27 (0, 0)) :: row e_Item.T e_Item.sz a (pre).length c' (flat e_Item pre) :: itsM pre :: (Lxg1 ++ F)) (fun w S => S.perm (rgPM Lxg1 [blk b2 (.cells #[.slice a (pre).length c'] 27 (0, 0)), row e_Item.T e_Item.sz a (pre).length c' (flat e_Item pre), itsM pre] F)) ?_
  refine c_region ?_
  refine o_alloc rfl ti42 fun b5 => ?_
  refine o_storen rfl rfl ti42 rfl rfl rfl rfl ?_
  refine l_nil ?_
  refine q_conv (fun w S => S.perm p6) ?_
  refine q_conv (fun w S => S.perm p6) ?_
  refine q_conv (fun w S => S.perm p6) ?_
  refine q_conv (fun w S => S.perm p6) ?_
  refine q_conv (fun w S => S.perm p6) ?_
  refine q_conv (fun w S => S.perm p5) ?_
  refine q_conv (fun w S => S.perm p6) ?_
  refine q_begin rfl hrg1 ?_
  refine c_block ?_
  refine c_region ?_
  refine o_load1 rfl rfl Try.underlying27 rfl (rd_mem 4 rfl rfl) ?_
  refine o_loadn (vs := [_, _, _, _, _, _, _, _, _, _, _, _]) rfl rfl Try.underlying42 rfl ti42 (rdn_lit 1 rfl rfl) ?_
  refine o_lit e_Item_ok rfl Try.underlying27 rfl rfl rfl (lit_ok rfl) [x] rfl rfl fun a10 => ?_
  refine l_f6 ?_
  refine o_append e_Item_ok rfl rfl rfl Try.underlying27 (rds_own e_Item_ok 1 rfl) (by show (_ + _) * _ ≤ _; simp only [List.length_cons, List.length_nil]; omega) (by simp only [List.length_cons, List.length_nil]; omega) fun a11 c11 => ?_
  refine l_f1 ?_
  refine l_drop ?_
  refine l_f5 ?_
  refine o_store1 rfl rfl rfl ti27 rfl rfl ?_
  refine l_nil ?_
  refine q_block ?_
  refine q_conv (fun w S => S.perm p4) ?_
  refine q_conv (fun w S => S.perm p4) ?_
  refine q_conv (fun w S => S.perm p4) ?_
  refine q_conv (fun w S => S.perm p4) ?_
  refine q_conv (fun w S => S.perm p4) ?_
  refine q_conv (fun w S => S.perm p6) ?_
  refine q_conv (fun w S => S.perm p6) ?_
  refine q_conv (L' := itsM (pre ++ [x]) :: _) (fun w S => itsM_snoc S) ?_
  refine q_conv (fun w S => (S.perm p4).tail) ?_
  refine q_conv (fun w S => S.perm p2) ?_
  refine q_conv (fun w S => S.perm p2) ?_
  refine q_conv (fun w S => S.perm p4) ?_
  refine q_conv (fun w S => S.perm p4) ?_
  exact q_roundOn (.inl ⟨rfl, _, ⟨a11, c11, by rw [List.length_append]; simpa using hpl2, rfl⟩, rfl⟩) (fun w S => S.perm (rgP Lxg1 [blk b2 (.cells #[.slice a11 (pre ++ [x]).length c11] 27 (0, 0)), row e_Item.T e_Item.sz a11 (pre ++ [x]).length c11 (flat e_Item (pre ++ [x])), itsM (pre ++ [x])] F).symm)
 · -- all have come
  rintro dg1 xsg1 _ hdng1 ⟨a, c', hpl, rfl⟩
  try dsimp only at *
  refine q_block ?_
  refine q_then ?_
  refine c_seq ?_
  refine c_region ?_
  refine o_load1 rfl rfl Try.underlying27 rfl (rd_mem 3 rfl rfl) ?_
  refine o_assign rfl rfl ?_
  refine l_nil ?_
  refine q_then ?_
  refine c_ret ?_
  refine f_retMq [dg1] (.inl rfl) rfl (fun w S => S) (rs_1 rfl (rs_tmp rfl)) (fun w S => ?_)
  replace S := S.tail
  replace S := S.tail
  replace S := S.tail
  exact ⟨_, ⟨a, c', xsg1, hdng1, rfl, rfl⟩, (fun w S => S) w S⟩
 · -- a round has left
  exact fun _ _ _ h => h.elim

theorem collect_ {W : World} {F : List Res} {g : Int} {b k : Nat} {log : List Order} {a : Option Addr} {c : Nat} (hs : SlR W e_Order a log) (ho : ∀ x ∈ log, ∀ L, OrdR W L x) (hc : log.length ≤ c ∧ c ≤ 9223372036854775807) (hl : log.length ≤ 40) (hsm : ∀ x ∈ log, OSmall x) : CS Try.prog 25 #[.func (.func 37) #[] #[.pointer (some ⟨b, 0, none⟩), .pointer (some ⟨k, 0, none⟩)]] W (blk b (.cells #[.slice a (log).length c] 22 (0, 0)) :: blk k (.cells #[.int .i64 g] 3 (0, 0)) :: F) (fun r L' => ∃ (a' : Option Addr) (c' : Nat) (ps : List Item), DnP g log ps ∧ r = .slice a' ps.length c' ∧ L' = row e_Item.T e_Item.sz a' ps.length c' (flat e_Item ps) :: itsM ps :: F) := by
 refine f_door (l0 := [(0, .func (.func 37) #[] #[.pointer (some ⟨b, 0, none⟩), .pointer (some ⟨k, 0, none⟩)])]) Try.func25 Try.ntmps25 rfl rfl rfl ?_
 refine c_seq ?_
 refine c_region ?_
 refine o_assign rfl rfl ?_
 refine l_nil ?_
 refine q_then ?_
 refine c_seq ?_
 refine c_region ?_
 refine o_move rfl rfl ?_
 refine l_f1 ?_
 refine l_f1 ?_
 refine o_call rfl cal36 rfl (appendSeq_ (g := g)  hs ho hc hl hsm) ?_
 rintro _ _ ⟨a4, c4, ps4, hdn4, rfl, rfl⟩
 have hit_ps4 := hdn4.2
 refine o_assign rfl rfl ?_
 refine l_nil ?_
 refine q_then ?_
 refine c_ret ?_
 exact f_ret (r_one rfl rfl) (⟨a4, c4, ps4, hdn4, rfl, rfl⟩) (fun w S => S)

theorem spieces_ {W : World} {F : List Res} {g : Int} {log : List Order} {a : Option Addr} {c : Nat} (hs : SlR W e_Order a log) (ho : ∀ x ∈ log, ∀ L, OrdR W L x) (hc : log.length ≤ c ∧ c ≤ 9223372036854775807) (hl : log.length ≤ 40) (hsm : ∀ x ∈ log, OSmall x) : CS Try.prog 9 #[.slice a log.length c, .int .i64 g] W (F) (fun r L' => ∃ (a' : Option Addr) (c' : Nat) (ps : List Item), DnP g log ps ∧ r = .slice a' ps.length c' ∧ L' = row e_Item.T e_Item.sz a' ps.length c' (flat e_Item ps) :: itsM ps :: F) := by
 refine f_door (l0 := [(0, .slice a log.length c), (1, .int .i64 g)]) Try.func9 Try.ntmps9 rfl rfl rfl ?_
 refine c_seq ?_
 refine c_region ?_
 refine o_assign rfl rfl ?_
 refine l_nil ?_
 refine q_then ?_
 refine c_seq ?_
 refine c_region ?_
 refine o_move rfl rfl ?_
 refine o_move rfl rfl ?_
 refine o_call rfl cal26 rfl (pieces_) ?_
 rintro _ _ ⟨b7, k7, rfl, rfl⟩
 refine l_f1 ?_
 refine l_f1 ?_
 refine o_call rfl cal25 rfl (collect_ (g := g)  hs ho hc hl hsm) ?_
 rintro _ _ ⟨a8, c8, ps8, hdn8, rfl, rfl⟩
 have hit_ps8 := hdn8.2
 refine o_assign rfl rfl ?_
 refine l_nil ?_
 refine q_then ?_
 refine c_ret ?_
 exact f_ret (r_one rfl rfl) (⟨a8, c8, ps8, hdn8, rfl, rfl⟩) (fun w S => S)

end Go.Proofs.Yteehongibjkjlaa
