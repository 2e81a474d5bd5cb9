/- Printed by eng2.py out of 18/spec.py. -/
import Derived.Test.YtoigakfglgdjdaaEqual
set_option linter.unusedVariables false
set_option linter.unusedSimpArgs false
set_option maxRecDepth 10000
namespace Go.Proofs.Ytoigakfglgdjdaa
open Go.RowKit Classical
theorem sp69 : StructP Try.prog 69 #[(0, 1)] := ⟨_, Try.underlying69, fun w => by kernel_rfl⟩
/-- What the reader has of a message's head, if the bytes are a message's. -/
theorem read7 {bs y0 y1 y2 y3 y4 y5 y6 y7 y8 : List UInt8} (h0 : y0 = bs) (h1 : y1 = y0.drop (numR 0 0 y0).2.2) (h2 : y2 = y1.drop (numR 0 0 y1).2.2) (h3 : y3 = y2.drop (numR 0 0 y2).2.2) (h4 : y4 = y3.drop (numR 0 0 y3).2.2) (h5 : y5 = y4.drop (numR 0 0 y4).2.2) (h6 : y6 = y5.drop (numR 0 0 y5).2.2) (h7 : y7 = y6.drop (textR y6).2.2) (h8 : y8 = y7.drop (numR 0 0 y7).2.2) :
    ∀ m, Good m bs → (((min (numR 0 0 y0).1 2147483647 : Nat) : Int) = m.f_Kind ∧ ((min (numR 0 0 y1).1 2147483647 : Nat) : Int) = m.f_From ∧ ((min (numR 0 0 y2).1 2147483647 : Nat) : Int) = m.f_To ∧ ((min (numR 0 0 y3).1 2147483647 : Nat) : Int) = m.f_Group ∧ ((min (numR 0 0 y4).1 2147483647 : Nat) : Int) = m.f_Slot ∧ ((numR 0 0 y5).1 : Int) = m.f_Ballot ∧ bts (textR y6).1 = m.f_Value) ∧ min (min (numR 0 0 y7).1 2147483647) 65 = m.f_Votes.xs.length ∧ y8 = voT m 0 := fun m g => by
  have hk := g.ok
  unfold MsgOk at hk
  have hl := g.len
  obtain ⟨a0, _, b0⟩ := g.num (i := 0) rfl (h0.trans (g.eq.trans (wireB_hdT m)))
  obtain ⟨a1, _, b1⟩ := g.num (i := 1) rfl (h1.trans b0)
  obtain ⟨a2, _, b2⟩ := g.num (i := 2) rfl (h2.trans b1)
  obtain ⟨a3, _, b3⟩ := g.num (i := 3) rfl (h3.trans b2)
  obtain ⟨a4, _, b4⟩ := g.num (i := 4) rfl (h4.trans b3)
  obtain ⟨a5, _, b5⟩ := g.num (i := 5) rfl (h5.trans b4)
  obtain ⟨a6, _, b6⟩ := g.text (h6.trans b5)
  obtain ⟨a7, _, b7⟩ := g.nv (h7.trans b6)
  refine ⟨⟨by omega, by omega, by omega, by omega, by omega, a5, a6⟩, by omega, h8.trans b7⟩
theorem readV {bs ys y1 y2 y3 : List UInt8} {m : Msg} {i : Nat} (g : Good m bs) (hi : i < m.f_Votes.xs.length) (h0 : ys = voT m i) (h1 : y1 = ys.drop (numR 0 0 ys).2.2) (h2 : y2 = y1.drop (numR 0 0 y1).2.2) (h3 : y3 = y2.drop (textR y2).2.2) :
    (⟨((min (numR 0 0 ys).1 2147483647 : Nat) : Int), ((numR 0 0 y1).1 : Int), bts (textR y2).1⟩ : Vote) = m.f_Votes.xs[i] ∧ y3 = voT m (i + 1) := by
  have hx := List.getElem?_eq_getElem hi
  obtain ⟨⟨v1, v2, v3⟩, v4, v5⟩ := g.vote hx
  obtain ⟨a0, _, b0⟩ := nB_of v1 (by omega) (h0.trans (voT_on hx))
  obtain ⟨a1, _, b1⟩ := nB_of v4 v5 (h1.trans b0)
  obtain ⟨a2, _, b2⟩ := textR_of (by omega) (h2.trans b1)
  refine ⟨?_, h3.trans b2⟩
  rw [a1, a2, show ((min (numR 0 0 ys).1 2147483647 : Nat) : Int) = m.f_Votes.xs[i].f_Slot by omega]
theorem take_snoc {α : Type} {xs : List α} {i : Nat} (hi : i < xs.length) : xs.take (i + 1) = xs.take i ++ [xs[i]] := List.take_succ_eq_append_getElem hi
/-- What the reader has of the votes. -/
structure VInv (bs : List UInt8) (K i : Nat) (vs : List Vote) (ys : List UInt8) : Prop where
  len : vs.length = i
  wf : ∀ v ∈ vs, 0 ≤ v.f_Ballot ∧ v.f_Ballot < 18446744073709551616
  is : ∀ m, Good m bs → K = m.f_Votes.xs.length ∧ vs = m.f_Votes.xs.take i ∧ ys = voT m i
theorem VInv.on {bs ys y1 y2 y3 : List UInt8} {K i : Nat} {vs : List Vote} (h : VInv bs K i vs ys) (hi : i < K) (h1 : y1 = ys.drop (numR 0 0 ys).2.2) (h2 : y2 = y1.drop (numR 0 0 y1).2.2) (h3 : y3 = y2.drop (textR y2).2.2) :
    VInv bs K (i + 1) (vs ++ [⟨((min (numR 0 0 ys).1 2147483647 : Nat) : Int), ((numR 0 0 y1).1 : Int), bts (textR y2).1⟩]) y3 := by
  refine ⟨by rw [List.length_append, h.len]; rfl, fun v hv => ?_, fun m g => ?_⟩
  · rcases List.mem_append.1 hv with h9 | h9
    · exact h.wf v h9
    · simp only [List.mem_cons, List.not_mem_nil, or_false] at h9
      subst h9
      have := numR_lt y1 0 0 (by omega) (by omega)
      exact ⟨by dsimp only; omega, by dsimp only; omega⟩
  · obtain ⟨e1, e2, e3⟩ := h.is m g
    obtain ⟨f1, f2⟩ := readV g (by omega) e3 h1 h2 h3
    exact ⟨e1, by rw [take_snoc (by omega), e2, f1], f2⟩
theorem VInv.start {bs y8 : List UInt8} {K : Nat} (h : ∀ m, Good m bs → K = m.f_Votes.xs.length ∧ y8 = voT m 0) : VInv bs K 0 [] y8 := ⟨rfl, fun v hv => (by cases hv), fun m g => ⟨(h m g).1, rfl, (h m g).2⟩⟩
theorem read_no {bs : List UInt8} {q m : Msg} (hs : SameG m q) (g : Good m bs) : msgN q = 0 ∧ wrB q = bs := by
  have g2 := g.same hs
  exact ⟨if_pos g2.ok, by rw [wrB, if_pos g2.ok, g2.eq]⟩
theorem wrB_len {m : Msg} (w : Wf m) : (wrB m).length ≤ 9223372036854775807 := by
  by_cases h : MsgOk m
  · have h1 := bodyB_len h w
    have h2 := numB_len_le 10 (sumB (bodyB m)).toNat (by have := (sumB (bodyB m)).isLt; omega) (by omega)
    rw [wrB, if_pos h, wireB, List.length_append]; omega
  · rw [wrB, if_neg h]; simp
theorem read_yes {bs : List UInt8} {q : Msg} (hw : Wf q) (h1 : msgN q = 0) (h2 : wrB q = bs) : Good q bs := ⟨msgN_0 h1, hw, by rw [← h2, wrB, if_pos (msgN_0 h1)]⟩
set_option maxHeartbeats 2000000 in
theorem read_ {W : World} {F : List Res} {bs : List UInt8} {a : Option Addr} {c : Nat} (hs : RdS W F e8 a bs) (hn : bs.length ≤ 70000000000000) : CS Try.prog 15 #[.slice a bs.length c] W (F) (fun r L' => ∃ (q : Msg) (n : Int), RdRes bs q n ∧ r = .tuple #[.agg (e_Msg.cells q).toArray, .int .i64 n] ∧ L' = row e_Vote.T e_Vote.sz q.f_Votes.a (q.f_Votes.xs).length q.f_Votes.c (flat e_Vote q.f_Votes.xs) :: F) := by
 refine f_door (l0 := [(0, .slice a bs.length c)]) Try.func15 Try.ntmps15 rfl rfl rfl ?_
 refine c_seq ?_
 refine c_region ?_
 refine o_alloc rfl ti26 fun b2 => ?_
 refine o_assign rfl rfl ?_
 refine l_nil ?_
 refine q_then ?_
 refine c_seq ?_
 refine c_region ?_
 refine o_move rfl rfl ?_
 refine o_call rfl cal28 rfl (newEye (rds_c hs) (by omega)) ?_
 rintro _ _ ⟨k9, a9, c9, hc9, rfl, rfl⟩
 have ok9 := eyeOk_start (W := W) (a := a9) hc9 (show (bs).length ≤ 70000000000000 by omega)
 refine o_build rfl sp69 ti69 rfl ((fill_cons (cells' := [.pointer (some ⟨k9, 0, none⟩)]) rfl rfl rfl rfl fill_nil)) ?_
 refine o_alloc rfl ti69 fun b4 => ?_
 refine o_storen rfl rfl ti69 rfl rfl rfl rfl ?_
 refine l_nil ?_
 refine q_then ?_
 refine c_seq ?_
 refine c_mid (α := Nat × (List UInt8) × (List UInt8) × (List UInt8) × (List UInt8) × (List UInt8) × (List UInt8) × (List UInt8) × (Option Addr) × Nat × Nat) (fun z => [(0, .slice a (bs).length c), (2, .pointer (some ⟨b2, 0, none⟩)), (3, .int .i64 0), (4, .pointer (some ⟨b4, 0, none⟩)), (5, .pointer (some ⟨z.1, 0, none⟩)), (8, .slice a (bs).length c), (9, .pointer (some ⟨k9, 0, none⟩)), (10, .agg #[.pointer (some ⟨k9, 0, none⟩)]), (11, .agg #[.pointer (some ⟨k9, 0, none⟩)]), (12, .int .i64 ((min (numR 0 0 bs).1 2147483647 : Nat) : Int)), (13, .agg #[.pointer (some ⟨k9, 0, none⟩)]), (14, .int .i64 ((min (numR 0 0 z.2.1).1 2147483647 : Nat) : Int)), (15, .agg #[.pointer (some ⟨k9, 0, none⟩)]), (16, .int .i64 ((min (numR 0 0 z.2.2.1).1 2147483647 : Nat) : Int)), (17, .agg #[.pointer (some ⟨k9, 0, none⟩)]), (18, .int .i64 ((min (numR 0 0 z.2.2.2.1).1 2147483647 : Nat) : Int)), (19, .agg #[.pointer (some ⟨k9, 0, none⟩)]), (20, .int .i64 ((min (numR 0 0 z.2.2.2.2.1).1 2147483647 : Nat) : Int)), (21, .agg #[.pointer (some ⟨k9, 0, none⟩)]), (22, .int .u64 ((numR 0 0 z.2.2.2.2.2.1).1 : Int)), (23, .agg #[.pointer (some ⟨k9, 0, none⟩)]), (24, .string (bts (textR z.2.2.2.2.2.2.1).1)), (25, .agg #[.int .i64 ((min (numR 0 0 bs).1 2147483647 : Nat) : Int), .int .i64 ((min (numR 0 0 z.2.1).1 2147483647 : Nat) : Int), .int .i64 ((min (numR 0 0 z.2.2.1).1 2147483647 : Nat) : Int), .int .i64 ((min (numR 0 0 z.2.2.2.1).1 2147483647 : Nat) : Int), .int .i64 ((min (numR 0 0 z.2.2.2.2.1).1 2147483647 : Nat) : Int), .int .u64 ((numR 0 0 z.2.2.2.2.2.1).1 : Int), .string (bts (textR z.2.2.2.2.2.2.1).1), .slice none 0 0])]) (fun z => blk z.1 (.cells #[.int .i64 ((min (numR 0 0 bs).1 2147483647 : Nat) : Int), .int .i64 ((min (numR 0 0 z.2.1).1 2147483647 : Nat) : Int), .int .i64 ((min (numR 0 0 z.2.2.1).1 2147483647 : Nat) : Int), .int .i64 ((min (numR 0 0 z.2.2.2.1).1 2147483647 : Nat) : Int), .int .i64 ((min (numR 0 0 z.2.2.2.2.1).1 2147483647 : Nat) : Int), .int .u64 ((numR 0 0 z.2.2.2.2.2.1).1 : Int), .string (bts (textR z.2.2.2.2.2.2.1).1), .slice none 0 0] 26 (0, 0)) :: blk k9 (.cells #[.slice z.2.2.2.2.2.2.2.2.1 (z.2.2.2.2.2.2.2.1).length z.2.2.2.2.2.2.2.2.2.1] 85 (0, 0)) :: row e8.T e8.sz a9 (bs).length c9 (flat e8 bs) :: blk b4 (.cells #[.pointer (some ⟨k9, 0, none⟩)] 69 (0, 0)) :: blk b2 (.cells #[.int .i64 0, .int .i64 0, .int .i64 0, .int .i64 0, .int .i64 0, .int .u64 0, .string ByteArray.empty, .slice none 0 0] 26 (0, 0)) :: F) (fun z => EyeOk W a9 bs z.2.2.2.2.2.2.2.2.2.2 z.2.2.2.2.2.2.2.1 z.2.2.2.2.2.2.2.2.1 z.2.2.2.2.2.2.2.2.2.1 ∧ z.2.1 = bs.drop (numR 0 0 bs).2.2 ∧ z.2.2.1 = z.2.1.drop (numR 0 0 z.2.1).2.2 ∧ z.2.2.2.1 = z.2.2.1.drop (numR 0 0 z.2.2.1).2.2 ∧ z.2.2.2.2.1 = z.2.2.2.1.drop (numR 0 0 z.2.2.2.1).2.2 ∧ z.2.2.2.2.2.1 = z.2.2.2.2.1.drop (numR 0 0 z.2.2.2.2.1).2.2 ∧ z.2.2.2.2.2.2.1 = z.2.2.2.2.2.1.drop (numR 0 0 z.2.2.2.2.2.1).2.2 ∧ z.2.2.2.2.2.2.2.1 = z.2.2.2.2.2.2.1.drop (textR z.2.2.2.2.2.2.1).2.2) ?_ ?_
 · -- cut
  refine c_conv (fun w S => S.perm p1) ?_
  refine c_conv (fun w S => S.perm p3) ?_
  refine c_conv (fun w S => S.perm p3) ?_
  refine c_conv (fun w S => S.perm p3) ?_
  refine c_held [blk b4 (.cells #[.pointer (some ⟨k9, 0, none⟩)] 69 (0, 0)), row e8.T e8.sz a9 (bs).length c9 (flat e8 bs), blk b2 (.cells #[.int .i64 0, .int .i64 0, .int .i64 0, .int .i64 0, .int .i64 0, .int .u64 0, .string ByteArray.empty, .slice none 0 0] 26 (0, 0))] (by kernel_rfl) rfl ?_
  refine h_take 0 rfl rfl (by kernel_rfl) (by kernel_rfl) (by kernel_rfl) (fun L0 => v_loadn (vs := [_]) rfl rfl Try.underlying69 rfl ti69 (rdn_lit 0 rfl rfl)) ?_
  refine h_take 2 rfl rfl (by kernel_rfl) (by kernel_rfl) (by kernel_rfl) (fun L0 => v_loadn (vs := [_]) rfl rfl Try.underlying69 rfl ti69 (rdn_lit 0 rfl rfl)) ?_
  refine h_take 4 rfl rfl (by kernel_rfl) (by kernel_rfl) (by kernel_rfl) (fun L0 => v_loadn (vs := [_]) rfl rfl Try.underlying69 rfl ti69 (rdn_lit 0 rfl rfl)) ?_
  refine h_take 6 rfl rfl (by kernel_rfl) (by kernel_rfl) (by kernel_rfl) (fun L0 => v_loadn (vs := [_]) rfl rfl Try.underlying69 rfl ti69 (rdn_lit 0 rfl rfl)) ?_
  refine h_take 8 rfl rfl (by kernel_rfl) (by kernel_rfl) (by kernel_rfl) (fun L0 => v_loadn (vs := [_]) rfl rfl Try.underlying69 rfl ti69 (rdn_lit 0 rfl rfl)) ?_
  refine h_take 10 rfl rfl (by kernel_rfl) (by kernel_rfl) (by kernel_rfl) (fun L0 => v_loadn (vs := [_]) rfl rfl Try.underlying69 rfl ti69 (rdn_lit 0 rfl rfl)) ?_
  refine h_take 12 rfl rfl (by kernel_rfl) (by kernel_rfl) (by kernel_rfl) (fun L0 => v_loadn (vs := [_]) rfl rfl Try.underlying69 rfl ti69 (rdn_lit 0 rfl rfl)) ?_
  refine h_many (is := [1, 15]) (by kernel_rfl) (by decide) (forall_cons ⟨_, rfl, ?_⟩ (forall_cons ⟨_, rfl, ?_⟩ forall_nil))
  · -- 1 comes first
   refine l_f1 ?_
   refine l_f3 ?_
   refine o_call rfl cal29 rfl (small_ ok9) ?_
   rintro _ _ ⟨ys12, ay12, cy12, ok12, rfl, rfl⟩
   have dr12 : ys12 = bs.drop (numR 0 0 bs).2.2 := EyeOk.next ok9 ok12
   refine l_nil ?_
   refine q_conv (fun w S => S.perm p3) ?_
   refine q_conv (fun w S => S.perm p2) ?_
   refine q_conv (fun w S => S.perm p3) ?_
   refine h_next ?_
   refine h_many (is := [3, 15]) (by kernel_rfl) (by decide) (forall_cons ⟨_, rfl, ?_⟩ (forall_cons ⟨_, rfl, ?_⟩ forall_nil))
   · -- 3 comes first
    refine l_f1 ?_
    refine l_f3 ?_
    refine o_call rfl cal29 rfl (small_ ok12) ?_
    rintro _ _ ⟨ys14, ay14, cy14, ok14, rfl, rfl⟩
    have dr14 : ys14 = ys12.drop (numR 0 0 ys12).2.2 := EyeOk.next ok12 ok14
    refine l_nil ?_
    refine q_conv (fun w S => S.perm p3) ?_
    refine q_conv (fun w S => S.perm p2) ?_
    refine q_conv (fun w S => S.perm p3) ?_
    refine h_next ?_
    refine h_many (is := [5, 15]) (by kernel_rfl) (by decide) (forall_cons ⟨_, rfl, ?_⟩ (forall_cons ⟨_, rfl, ?_⟩ forall_nil))
    · -- 5 comes first
     refine l_f1 ?_
     refine l_f3 ?_
     refine o_call rfl cal29 rfl (small_ ok14) ?_
     rintro _ _ ⟨ys16, ay16, cy16, ok16, rfl, rfl⟩
     have dr16 : ys16 = ys14.drop (numR 0 0 ys14).2.2 := EyeOk.next ok14 ok16
     refine l_nil ?_
     refine q_conv (fun w S => S.perm p3) ?_
     refine q_conv (fun w S => S.perm p2) ?_
     refine q_conv (fun w S => S.perm p3) ?_
     refine h_next ?_
     refine h_many (is := [7, 15]) (by kernel_rfl) (by decide) (forall_cons ⟨_, rfl, ?_⟩ (forall_cons ⟨_, rfl, ?_⟩ forall_nil))
     · -- 7 comes first
      refine l_f1 ?_
      refine l_f3 ?_
      refine o_call rfl cal29 rfl (small_ ok16) ?_
      rintro _ _ ⟨ys18, ay18, cy18, ok18, rfl, rfl⟩
      have dr18 : ys18 = ys16.drop (numR 0 0 ys16).2.2 := EyeOk.next ok16 ok18
      refine l_nil ?_
      refine q_conv (fun w S => S.perm p3) ?_
      refine q_conv (fun w S => S.perm p2) ?_
      refine q_conv (fun w S => S.perm p3) ?_
      refine h_next ?_
      refine h_many (is := [9, 15]) (by kernel_rfl) (by decide) (forall_cons ⟨_, rfl, ?_⟩ (forall_cons ⟨_, rfl, ?_⟩ forall_nil))
      · -- 9 comes first
       refine l_f1 ?_
       refine l_f3 ?_
       refine o_call rfl cal29 rfl (small_ ok18) ?_
       rintro _ _ ⟨ys20, ay20, cy20, ok20, rfl, rfl⟩
       have dr20 : ys20 = ys18.drop (numR 0 0 ys18).2.2 := EyeOk.next ok18 ok20
       refine l_nil ?_
       refine q_conv (fun w S => S.perm p3) ?_
       refine q_conv (fun w S => S.perm p2) ?_
       refine q_conv (fun w S => S.perm p3) ?_
       refine h_next ?_
       refine h_many (is := [11, 15]) (by kernel_rfl) (by decide) (forall_cons ⟨_, rfl, ?_⟩ (forall_cons ⟨_, rfl, ?_⟩ forall_nil))
       · -- 11 comes first
        refine l_f1 ?_
        refine l_f3 ?_
        refine o_call rfl cal30 rfl (num_ ok20) ?_
        rintro _ _ ⟨ys22, ay22, cy22, ok22, rfl, rfl⟩
        have dr22 : ys22 = ys20.drop (numR 0 0 ys20).2.2 := EyeOk.next ok20 ok22
        refine l_nil ?_
        refine q_conv (fun w S => S.perm p3) ?_
        refine q_conv (fun w S => S.perm p2) ?_
        refine q_conv (fun w S => S.perm p3) ?_
        refine h_next ?_
        refine h_many (is := [13, 15]) (by kernel_rfl) (by decide) (forall_cons ⟨_, rfl, ?_⟩ (forall_cons ⟨_, rfl, ?_⟩ forall_nil))
        · -- 13 comes first
         refine l_f1 ?_
         refine l_f3 ?_
         refine o_call rfl cal31 rfl (text_ ok22) ?_
         rintro _ _ ⟨ys24, ay24, cy24, ok24, rfl, rfl⟩
         have dr24 : ys24 = ys22.drop (textR ys22).2.2 := EyeOk.next ok22 ok24
         refine l_nil ?_
         refine q_conv (fun w S => S.perm p3) ?_
         refine q_conv (fun w S => S.perm p2) ?_
         refine q_conv (fun w S => S.perm p3) ?_
         refine h_next ?_
         refine h_take 14 rfl rfl (by kernel_rfl) (by kernel_rfl) (by kernel_rfl) (fun L0 => v_build rfl sp26 ti26 rfl ((fill_cons (cells' := [.int .i64 ((min (numR 0 0 bs).1 2147483647 : Nat) : Int), .int .i64 0, .int .i64 0, .int .i64 0, .int .i64 0, .int .u64 0, .string ByteArray.empty, .slice none 0 0]) rfl rfl rfl rfl (fill_cons (cells' := [.int .i64 ((min (numR 0 0 bs).1 2147483647 : Nat) : Int), .int .i64 ((min (numR 0 0 ys12).1 2147483647 : Nat) : Int), .int .i64 0, .int .i64 0, .int .i64 0, .int .u64 0, .string ByteArray.empty, .slice none 0 0]) rfl rfl rfl rfl (fill_cons (cells' := [.int .i64 ((min (numR 0 0 bs).1 2147483647 : Nat) : Int), .int .i64 ((min (numR 0 0 ys12).1 2147483647 : Nat) : Int), .int .i64 ((min (numR 0 0 ys14).1 2147483647 : Nat) : Int), .int .i64 0, .int .i64 0, .int .u64 0, .string ByteArray.empty, .slice none 0 0]) rfl rfl rfl rfl (fill_cons (cells' := [.int .i64 ((min (numR 0 0 bs).1 2147483647 : Nat) : Int), .int .i64 ((min (numR 0 0 ys12).1 2147483647 : Nat) : Int), .int .i64 ((min (numR 0 0 ys14).1 2147483647 : Nat) : Int), .int .i64 ((min (numR 0 0 ys16).1 2147483647 : Nat) : Int), .int .i64 0, .int .u64 0, .string ByteArray.empty, .slice none 0 0]) rfl rfl rfl rfl (fill_cons (cells' := [.int .i64 ((min (numR 0 0 bs).1 2147483647 : Nat) : Int), .int .i64 ((min (numR 0 0 ys12).1 2147483647 : Nat) : Int), .int .i64 ((min (numR 0 0 ys14).1 2147483647 : Nat) : Int), .int .i64 ((min (numR 0 0 ys16).1 2147483647 : Nat) : Int), .int .i64 ((min (numR 0 0 ys18).1 2147483647 : Nat) : Int), .int .u64 0, .string ByteArray.empty, .slice none 0 0]) rfl rfl rfl rfl (fill_cons (cells' := [.int .i64 ((min (numR 0 0 bs).1 2147483647 : Nat) : Int), .int .i64 ((min (numR 0 0 ys12).1 2147483647 : Nat) : Int), .int .i64 ((min (numR 0 0 ys14).1 2147483647 : Nat) : Int), .int .i64 ((min (numR 0 0 ys16).1 2147483647 : Nat) : Int), .int .i64 ((min (numR 0 0 ys18).1 2147483647 : Nat) : Int), .int .u64 ((numR 0 0 ys20).1 : Int), .string ByteArray.empty, .slice none 0 0]) rfl rfl rfl rfl (fill_cons (cells' := [.int .i64 ((min (numR 0 0 bs).1 2147483647 : Nat) : Int), .int .i64 ((min (numR 0 0 ys12).1 2147483647 : Nat) : Int), .int .i64 ((min (numR 0 0 ys14).1 2147483647 : Nat) : Int), .int .i64 ((min (numR 0 0 ys16).1 2147483647 : Nat) : Int), .int .i64 ((min (numR 0 0 ys18).1 2147483647 : Nat) : Int), .int .u64 ((numR 0 0 ys20).1 : Int), .string (bts (textR ys22).1), .slice none 0 0]) rfl rfl rfl rfl fill_nil))))))))) ?_
         refine h_one 15 rfl (by kernel_rfl) ?_
         refine o_alloc rfl ti26 fun b5 => ?_
         refine l_nil ?_
         refine q_conv (fun w S => S.perm p4) ?_
         refine q_conv (fun w S => S.perm p1) ?_
         refine q_conv (fun w S => S.perm p4) ?_
         refine q_conv (fun w S => S.perm p4) ?_
         refine q_conv (fun w S => S.perm p4) ?_
         refine h_next ?_
         refine h_one 16 rfl (by kernel_rfl) ?_
         refine l_f3 ?_
         refine o_storen rfl rfl ti26 rfl rfl rfl rfl ?_
         refine l_nil ?_
         refine q_conv (fun w S => S.perm p4) ?_
         refine q_conv (fun w S => S.perm p1) ?_
         refine q_conv (fun w S => S.perm p4) ?_
         refine q_conv (fun w S => S.perm p4) ?_
         refine q_conv (fun w S => S.perm p4) ?_
         refine h_next ?_
         refine h_done (by kernel_rfl) ?_
         refine q_conv (fun w S => S.perm p2) ?_
         refine q_conv (fun w S => S.perm p1) ?_
         refine q_conv (fun w S => S.perm p2) ?_
         refine q_conv (fun w S => S.perm p4) ?_
         refine q_conv (fun w S => S.perm p4) ?_
         exact q_mid (b5, ys12, ys14, ys16, ys18, ys20, ys22, ys24, ay24, cy24, _) (by exact ⟨ok24, dr12, dr14, dr16, dr18, dr20, dr22, dr24⟩) ⟨(by first | rfl | exact vint (by omega)), (by first | rfl | exact vint (by omega)), (by first | rfl | exact vint (by omega)), (by first | rfl | exact vint (by omega)), (by first | rfl | exact vint (by omega)), (by first | rfl | exact vint (by omega)), (by first | rfl | exact vint (by omega)), (by first | rfl | exact vint (by omega)), (by first | rfl | exact vint (by omega)), (by first | rfl | exact vint (by omega)), (by first | rfl | exact vint (by omega)), (by first | rfl | exact vint (by omega)), (by first | rfl | exact vint (by omega)), (by first | rfl | exact vint (by omega)), (by first | rfl | exact vint (by omega)), (by first | rfl | exact vint (by omega)), (by first | rfl | exact vint (by omega)), (by first | rfl | exact vint (by omega)), (by first | rfl | exact vint (by omega)), (by first | rfl | exact vint (by omega)), (by first | rfl | exact vint (by omega)), (by first | rfl | exact vint (by omega)), (by first | rfl | exact vint (by omega)), trivial⟩ (fun w S => S)
        · -- 15 comes first
         refine o_alloc rfl ti26 fun b5 => ?_
         refine l_nil ?_
         refine q_conv (fun w S => S.perm p4) ?_
         refine q_conv (fun w S => S.perm p1) ?_
         refine q_conv (fun w S => S.perm p4) ?_
         refine q_conv (fun w S => S.perm p4) ?_
         refine q_conv (fun w S => S.perm p4) ?_
         refine h_next ?_
         refine h_one 13 rfl (by kernel_rfl) ?_
         refine l_f1 ?_
         refine l_f4 ?_
         refine o_call rfl cal31 rfl (text_ ok22) ?_
         rintro _ _ ⟨ys24, ay24, cy24, ok24, rfl, rfl⟩
         have dr24 : ys24 = ys22.drop (textR ys22).2.2 := EyeOk.next ok22 ok24
         refine l_nil ?_
         refine q_conv (fun w S => S.perm p4) ?_
         refine q_conv (fun w S => S.perm p1) ?_
         refine q_conv (fun w S => S.perm p4) ?_
         refine q_conv (fun w S => S.perm p3) ?_
         refine q_conv (fun w S => S.perm p4) ?_
         refine h_next ?_
         refine h_take 14 rfl rfl (by kernel_rfl) (by kernel_rfl) (by kernel_rfl) (fun L0 => v_build rfl sp26 ti26 rfl ((fill_cons (cells' := [.int .i64 ((min (numR 0 0 bs).1 2147483647 : Nat) : Int), .int .i64 0, .int .i64 0, .int .i64 0, .int .i64 0, .int .u64 0, .string ByteArray.empty, .slice none 0 0]) rfl rfl rfl rfl (fill_cons (cells' := [.int .i64 ((min (numR 0 0 bs).1 2147483647 : Nat) : Int), .int .i64 ((min (numR 0 0 ys12).1 2147483647 : Nat) : Int), .int .i64 0, .int .i64 0, .int .i64 0, .int .u64 0, .string ByteArray.empty, .slice none 0 0]) rfl rfl rfl rfl (fill_cons (cells' := [.int .i64 ((min (numR 0 0 bs).1 2147483647 : Nat) : Int), .int .i64 ((min (numR 0 0 ys12).1 2147483647 : Nat) : Int), .int .i64 ((min (numR 0 0 ys14).1 2147483647 : Nat) : Int), .int .i64 0, .int .i64 0, .int .u64 0, .string ByteArray.empty, .slice none 0 0]) rfl rfl rfl rfl (fill_cons (cells' := [.int .i64 ((min (numR 0 0 bs).1 2147483647 : Nat) : Int), .int .i64 ((min (numR 0 0 ys12).1 2147483647 : Nat) : Int), .int .i64 ((min (numR 0 0 ys14).1 2147483647 : Nat) : Int), .int .i64 ((min (numR 0 0 ys16).1 2147483647 : Nat) : Int), .int .i64 0, .int .u64 0, .string ByteArray.empty, .slice none 0 0]) rfl rfl rfl rfl (fill_cons (cells' := [.int .i64 ((min (numR 0 0 bs).1 2147483647 : Nat) : Int), .int .i64 ((min (numR 0 0 ys12).1 2147483647 : Nat) : Int), .int .i64 ((min (numR 0 0 ys14).1 2147483647 : Nat) : Int), .int .i64 ((min (numR 0 0 ys16).1 2147483647 : Nat) : Int), .int .i64 ((min (numR 0 0 ys18).1 2147483647 : Nat) : Int), .int .u64 0, .string ByteArray.empty, .slice none 0 0]) rfl rfl rfl rfl (fill_cons (cells' := [.int .i64 ((min (numR 0 0 bs).1 2147483647 : Nat) : Int), .int .i64 ((min (numR 0 0 ys12).1 2147483647 : Nat) : Int), .int .i64 ((min (numR 0 0 ys14).1 2147483647 : Nat) : Int), .int .i64 ((min (numR 0 0 ys16).1 2147483647 : Nat) : Int), .int .i64 ((min (numR 0 0 ys18).1 2147483647 : Nat) : Int), .int .u64 ((numR 0 0 ys20).1 : Int), .string ByteArray.empty, .slice none 0 0]) rfl rfl rfl rfl (fill_cons (cells' := [.int .i64 ((min (numR 0 0 bs).1 2147483647 : Nat) : Int), .int .i64 ((min (numR 0 0 ys12).1 2147483647 : Nat) : Int), .int .i64 ((min (numR 0 0 ys14).1 2147483647 : Nat) : Int), .int .i64 ((min (numR 0 0 ys16).1 2147483647 : Nat) : Int), .int .i64 ((min (numR 0 0 ys18).1 2147483647 : Nat) : Int), .int .u64 ((numR 0 0 ys20).1 : Int), .string (bts (textR ys22).1), .slice none 0 0]) rfl rfl rfl rfl fill_nil))))))))) ?_
         refine h_one 16 rfl (by kernel_rfl) ?_
         refine l_f4 ?_
         refine o_storen rfl rfl ti26 rfl rfl rfl rfl ?_
         refine l_nil ?_
         refine q_conv (fun w S => S.perm p4) ?_
         refine q_conv (fun w S => S.perm p1) ?_
         refine q_conv (fun w S => S.perm p4) ?_
         refine q_conv (fun w S => S.perm p4) ?_
         refine q_conv (fun w S => S.perm p4) ?_
         refine h_next ?_
         refine h_done (by kernel_rfl) ?_
         refine q_conv (fun w S => S.perm p2) ?_
         refine q_conv (fun w S => S.perm p1) ?_
         refine q_conv (fun w S => S.perm p2) ?_
         refine q_conv (fun w S => S.perm p4) ?_
         refine q_conv (fun w S => S.perm p4) ?_
         exact q_mid (b5, ys12, ys14, ys16, ys18, ys20, ys22, ys24, ay24, cy24, _) (by exact ⟨ok24, dr12, dr14, dr16, dr18, dr20, dr22, dr24⟩) ⟨(by first | rfl | exact vint (by omega)), (by first | rfl | exact vint (by omega)), (by first | rfl | exact vint (by omega)), (by first | rfl | exact vint (by omega)), (by first | rfl | exact vint (by omega)), (by first | rfl | exact vint (by omega)), (by first | rfl | exact vint (by omega)), (by first | rfl | exact vint (by omega)), (by first | rfl | exact vint (by omega)), (by first | rfl | exact vint (by omega)), (by first | rfl | exact vint (by omega)), (by first | rfl | exact vint (by omega)), (by first | rfl | exact vint (by omega)), (by first | rfl | exact vint (by omega)), (by first | rfl | exact vint (by omega)), (by first | rfl | exact vint (by omega)), (by first | rfl | exact vint (by omega)), (by first | rfl | exact vint (by omega)), (by first | rfl | exact vint (by omega)), (by first | rfl | exact vint (by omega)), (by first | rfl | exact vint (by omega)), (by first | rfl | exact vint (by omega)), (by first | rfl | exact vint (by omega)), trivial⟩ (fun w S => S)
       · -- 15 comes first
        refine o_alloc rfl ti26 fun b5 => ?_
        refine l_nil ?_
        refine q_conv (fun w S => S.perm p4) ?_
        refine q_conv (fun w S => S.perm p1) ?_
        refine q_conv (fun w S => S.perm p4) ?_
        refine q_conv (fun w S => S.perm p4) ?_
        refine q_conv (fun w S => S.perm p4) ?_
        refine h_next ?_
        refine h_one 11 rfl (by kernel_rfl) ?_
        refine l_f1 ?_
        refine l_f4 ?_
        refine o_call rfl cal30 rfl (num_ ok20) ?_
        rintro _ _ ⟨ys22, ay22, cy22, ok22, rfl, rfl⟩
        have dr22 : ys22 = ys20.drop (numR 0 0 ys20).2.2 := EyeOk.next ok20 ok22
        refine l_nil ?_
        refine q_conv (fun w S => S.perm p4) ?_
        refine q_conv (fun w S => S.perm p1) ?_
        refine q_conv (fun w S => S.perm p4) ?_
        refine q_conv (fun w S => S.perm p3) ?_
        refine q_conv (fun w S => S.perm p4) ?_
        refine h_next ?_
        refine h_one 13 rfl (by kernel_rfl) ?_
        refine l_f1 ?_
        refine l_f3 ?_
        refine o_call rfl cal31 rfl (text_ ok22) ?_
        rintro _ _ ⟨ys24, ay24, cy24, ok24, rfl, rfl⟩
        have dr24 : ys24 = ys22.drop (textR ys22).2.2 := EyeOk.next ok22 ok24
        refine l_nil ?_
        refine q_conv (fun w S => S.perm p4) ?_
        refine q_conv (fun w S => S.perm p1) ?_
        refine q_conv (fun w S => S.perm p4) ?_
        refine q_conv (fun w S => S.perm p3) ?_
        refine q_conv (fun w S => S.perm p4) ?_
        refine h_next ?_
        refine h_take 14 rfl rfl (by kernel_rfl) (by kernel_rfl) (by kernel_rfl) (fun L0 => v_build rfl sp26 ti26 rfl ((fill_cons (cells' := [.int .i64 ((min (numR 0 0 bs).1 2147483647 : Nat) : Int), .int .i64 0, .int .i64 0, .int .i64 0, .int .i64 0, .int .u64 0, .string ByteArray.empty, .slice none 0 0]) rfl rfl rfl rfl (fill_cons (cells' := [.int .i64 ((min (numR 0 0 bs).1 2147483647 : Nat) : Int), .int .i64 ((min (numR 0 0 ys12).1 2147483647 : Nat) : Int), .int .i64 0, .int .i64 0, .int .i64 0, .int .u64 0, .string ByteArray.empty, .slice none 0 0]) rfl rfl rfl rfl (fill_cons (cells' := [.int .i64 ((min (numR 0 0 bs).1 2147483647 : Nat) : Int), .int .i64 ((min (numR 0 0 ys12).1 2147483647 : Nat) : Int), .int .i64 ((min (numR 0 0 ys14).1 2147483647 : Nat) : Int), .int .i64 0, .int .i64 0, .int .u64 0, .string ByteArray.empty, .slice none 0 0]) rfl rfl rfl rfl (fill_cons (cells' := [.int .i64 ((min (numR 0 0 bs).1 2147483647 : Nat) : Int), .int .i64 ((min (numR 0 0 ys12).1 2147483647 : Nat) : Int), .int .i64 ((min (numR 0 0 ys14).1 2147483647 : Nat) : Int), .int .i64 ((min (numR 0 0 ys16).1 2147483647 : Nat) : Int), .int .i64 0, .int .u64 0, .string ByteArray.empty, .slice none 0 0]) rfl rfl rfl rfl (fill_cons (cells' := [.int .i64 ((min (numR 0 0 bs).1 2147483647 : Nat) : Int), .int .i64 ((min (numR 0 0 ys12).1 2147483647 : Nat) : Int), .int .i64 ((min (numR 0 0 ys14).1 2147483647 : Nat) : Int), .int .i64 ((min (numR 0 0 ys16).1 2147483647 : Nat) : Int), .int .i64 ((min (numR 0 0 ys18).1 2147483647 : Nat) : Int), .int .u64 0, .string ByteArray.empty, .slice none 0 0]) rfl rfl rfl rfl (fill_cons (cells' := [.int .i64 ((min (numR 0 0 bs).1 2147483647 : Nat) : Int), .int .i64 ((min (numR 0 0 ys12).1 2147483647 : Nat) : Int), .int .i64 ((min (numR 0 0 ys14).1 2147483647 : Nat) : Int), .int .i64 ((min (numR 0 0 ys16).1 2147483647 : Nat) : Int), .int .i64 ((min (numR 0 0 ys18).1 2147483647 : Nat) : Int), .int .u64 ((numR 0 0 ys20).1 : Int), .string ByteArray.empty, .slice none 0 0]) rfl rfl rfl rfl (fill_cons (cells' := [.int .i64 ((min (numR 0 0 bs).1 2147483647 : Nat) : Int), .int .i64 ((min (numR 0 0 ys12).1 2147483647 : Nat) : Int), .int .i64 ((min (numR 0 0 ys14).1 2147483647 : Nat) : Int), .int .i64 ((min (numR 0 0 ys16).1 2147483647 : Nat) : Int), .int .i64 ((min (numR 0 0 ys18).1 2147483647 : Nat) : Int), .int .u64 ((numR 0 0 ys20).1 : Int), .string (bts (textR ys22).1), .slice none 0 0]) rfl rfl rfl rfl fill_nil))))))))) ?_
        refine h_one 16 rfl (by kernel_rfl) ?_
        refine l_f4 ?_
        refine o_storen rfl rfl ti26 rfl rfl rfl rfl ?_
        refine l_nil ?_
        refine q_conv (fun w S => S.perm p4) ?_
        refine q_conv (fun w S => S.perm p1) ?_
        refine q_conv (fun w S => S.perm p4) ?_
        refine q_conv (fun w S => S.perm p4) ?_
        refine q_conv (fun w S => S.perm p4) ?_
        refine h_next ?_
        refine h_done (by kernel_rfl) ?_
        refine q_conv (fun w S => S.perm p2) ?_
        refine q_conv (fun w S => S.perm p1) ?_
        refine q_conv (fun w S => S.perm p2) ?_
        refine q_conv (fun w S => S.perm p4) ?_
        refine q_conv (fun w S => S.perm p4) ?_
        exact q_mid (b5, ys12, ys14, ys16, ys18, ys20, ys22, ys24, ay24, cy24, _) (by exact ⟨ok24, dr12, dr14, dr16, dr18, dr20, dr22, dr24⟩) ⟨(by first | rfl | exact vint (by omega)), (by first | rfl | exact vint (by omega)), (by first | rfl | exact vint (by omega)), (by first | rfl | exact vint (by omega)), (by first | rfl | exact vint (by omega)), (by first | rfl | exact vint (by omega)), (by first | rfl | exact vint (by omega)), (by first | rfl | exact vint (by omega)), (by first | rfl | exact vint (by omega)), (by first | rfl | exact vint (by omega)), (by first | rfl | exact vint (by omega)), (by first | rfl | exact vint (by omega)), (by first | rfl | exact vint (by omega)), (by first | rfl | exact vint (by omega)), (by first | rfl | exact vint (by omega)), (by first | rfl | exact vint (by omega)), (by first | rfl | exact vint (by omega)), (by first | rfl | exact vint (by omega)), (by first | rfl | exact vint (by omega)), (by first | rfl | exact vint (by omega)), (by first | rfl | exact vint (by omega)), (by first | rfl | exact vint (by omega)), (by first | rfl | exact vint (by omega)), trivial⟩ (fun w S => S)
      · -- 15 comes first
       refine o_alloc rfl ti26 fun b5 => ?_
       refine l_nil ?_
       refine q_conv (fun w S => S.perm p4) ?_
       refine q_conv (fun w S => S.perm p1) ?_
       refine q_conv (fun w S => S.perm p4) ?_
       refine q_conv (fun w S => S.perm p4) ?_
       refine q_conv (fun w S => S.perm p4) ?_
       refine h_next ?_
       refine h_one 9 rfl (by kernel_rfl) ?_
       refine l_f1 ?_
       refine l_f4 ?_
       refine o_call rfl cal29 rfl (small_ ok18) ?_
       rintro _ _ ⟨ys20, ay20, cy20, ok20, rfl, rfl⟩
       have dr20 : ys20 = ys18.drop (numR 0 0 ys18).2.2 := EyeOk.next ok18 ok20
       refine l_nil ?_
       refine q_conv (fun w S => S.perm p4) ?_
       refine q_conv (fun w S => S.perm p1) ?_
       refine q_conv (fun w S => S.perm p4) ?_
       refine q_conv (fun w S => S.perm p3) ?_
       refine q_conv (fun w S => S.perm p4) ?_
       refine h_next ?_
       refine h_one 11 rfl (by kernel_rfl) ?_
       refine l_f1 ?_
       refine l_f3 ?_
       refine o_call rfl cal30 rfl (num_ ok20) ?_
       rintro _ _ ⟨ys22, ay22, cy22, ok22, rfl, rfl⟩
       have dr22 : ys22 = ys20.drop (numR 0 0 ys20).2.2 := EyeOk.next ok20 ok22
       refine l_nil ?_
       refine q_conv (fun w S => S.perm p4) ?_
       refine q_conv (fun w S => S.perm p1) ?_
       refine q_conv (fun w S => S.perm p4) ?_
       refine q_conv (fun w S => S.perm p3) ?_
       refine q_conv (fun w S => S.perm p4) ?_
       refine h_next ?_
       refine h_one 13 rfl (by kernel_rfl) ?_
       refine l_f1 ?_
       refine l_f3 ?_
       refine o_call rfl cal31 rfl (text_ ok22) ?_
       rintro _ _ ⟨ys24, ay24, cy24, ok24, rfl, rfl⟩
       have dr24 : ys24 = ys22.drop (textR ys22).2.2 := EyeOk.next ok22 ok24
       refine l_nil ?_
       refine q_conv (fun w S => S.perm p4) ?_
       refine q_conv (fun w S => S.perm p1) ?_
       refine q_conv (fun w S => S.perm p4) ?_
       refine q_conv (fun w S => S.perm p3) ?_
       refine q_conv (fun w S => S.perm p4) ?_
       refine h_next ?_
       refine h_take 14 rfl rfl (by kernel_rfl) (by kernel_rfl) (by kernel_rfl) (fun L0 => v_build rfl sp26 ti26 rfl ((fill_cons (cells' := [.int .i64 ((min (numR 0 0 bs).1 2147483647 : Nat) : Int), .int .i64 0, .int .i64 0, .int .i64 0, .int .i64 0, .int .u64 0, .string ByteArray.empty, .slice none 0 0]) rfl rfl rfl rfl (fill_cons (cells' := [.int .i64 ((min (numR 0 0 bs).1 2147483647 : Nat) : Int), .int .i64 ((min (numR 0 0 ys12).1 2147483647 : Nat) : Int), .int .i64 0, .int .i64 0, .int .i64 0, .int .u64 0, .string ByteArray.empty, .slice none 0 0]) rfl rfl rfl rfl (fill_cons (cells' := [.int .i64 ((min (numR 0 0 bs).1 2147483647 : Nat) : Int), .int .i64 ((min (numR 0 0 ys12).1 2147483647 : Nat) : Int), .int .i64 ((min (numR 0 0 ys14).1 2147483647 : Nat) : Int), .int .i64 0, .int .i64 0, .int .u64 0, .string ByteArray.empty, .slice none 0 0]) rfl rfl rfl rfl (fill_cons (cells' := [.int .i64 ((min (numR 0 0 bs).1 2147483647 : Nat) : Int), .int .i64 ((min (numR 0 0 ys12).1 2147483647 : Nat) : Int), .int .i64 ((min (numR 0 0 ys14).1 2147483647 : Nat) : Int), .int .i64 ((min (numR 0 0 ys16).1 2147483647 : Nat) : Int), .int .i64 0, .int .u64 0, .string ByteArray.empty, .slice none 0 0]) rfl rfl rfl rfl (fill_cons (cells' := [.int .i64 ((min (numR 0 0 bs).1 2147483647 : Nat) : Int), .int .i64 ((min (numR 0 0 ys12).1 2147483647 : Nat) : Int), .int .i64 ((min (numR 0 0 ys14).1 2147483647 : Nat) : Int), .int .i64 ((min (numR 0 0 ys16).1 2147483647 : Nat) : Int), .int .i64 ((min (numR 0 0 ys18).1 2147483647 : Nat) : Int), .int .u64 0, .string ByteArray.empty, .slice none 0 0]) rfl rfl rfl rfl (fill_cons (cells' := [.int .i64 ((min (numR 0 0 bs).1 2147483647 : Nat) : Int), .int .i64 ((min (numR 0 0 ys12).1 2147483647 : Nat) : Int), .int .i64 ((min (numR 0 0 ys14).1 2147483647 : Nat) : Int), .int .i64 ((min (numR 0 0 ys16).1 2147483647 : Nat) : Int), .int .i64 ((min (numR 0 0 ys18).1 2147483647 : Nat) : Int), .int .u64 ((numR 0 0 ys20).1 : Int), .string ByteArray.empty, .slice none 0 0]) rfl rfl rfl rfl (fill_cons (cells' := [.int .i64 ((min (numR 0 0 bs).1 2147483647 : Nat) : Int), .int .i64 ((min (numR 0 0 ys12).1 2147483647 : Nat) : Int), .int .i64 ((min (numR 0 0 ys14).1 2147483647 : Nat) : Int), .int .i64 ((min (numR 0 0 ys16).1 2147483647 : Nat) : Int), .int .i64 ((min (numR 0 0 ys18).1 2147483647 : Nat) : Int), .int .u64 ((numR 0 0 ys20).1 : Int), .string (bts (textR ys22).1), .slice none 0 0]) rfl rfl rfl rfl fill_nil))))))))) ?_
       refine h_one 16 rfl (by kernel_rfl) ?_
       refine l_f4 ?_
       refine o_storen rfl rfl ti26 rfl rfl rfl rfl ?_
       refine l_nil ?_
       refine q_conv (fun w S => S.perm p4) ?_
       refine q_conv (fun w S => S.perm p1) ?_
       refine q_conv (fun w S => S.perm p4) ?_
       refine q_conv (fun w S => S.perm p4) ?_
       refine q_conv (fun w S => S.perm p4) ?_
       refine h_next ?_
       refine h_done (by kernel_rfl) ?_
       refine q_conv (fun w S => S.perm p2) ?_
       refine q_conv (fun w S => S.perm p1) ?_
       refine q_conv (fun w S => S.perm p2) ?_
       refine q_conv (fun w S => S.perm p4) ?_
       refine q_conv (fun w S => S.perm p4) ?_
       exact q_mid (b5, ys12, ys14, ys16, ys18, ys20, ys22, ys24, ay24, cy24, _) (by exact ⟨ok24, dr12, dr14, dr16, dr18, dr20, dr22, dr24⟩) ⟨(by first | rfl | exact vint (by omega)), (by first | rfl | exact vint (by omega)), (by first | rfl | exact vint (by omega)), (by first | rfl | exact vint (by omega)), (by first | rfl | exact vint (by omega)), (by first | rfl | exact vint (by omega)), (by first | rfl | exact vint (by omega)), (by first | rfl | exact vint (by omega)), (by first | rfl | exact vint (by omega)), (by first | rfl | exact vint (by omega)), (by first | rfl | exact vint (by omega)), (by first | rfl | exact vint (by omega)), (by first | rfl | exact vint (by omega)), (by first | rfl | exact vint (by omega)), (by first | rfl | exact vint (by omega)), (by first | rfl | exact vint (by omega)), (by first | rfl | exact vint (by omega)), (by first | rfl | exact vint (by omega)), (by first | rfl | exact vint (by omega)), (by first | rfl | exact vint (by omega)), (by first | rfl | exact vint (by omega)), (by first | rfl | exact vint (by omega)), (by first | rfl | exact vint (by omega)), trivial⟩ (fun w S => S)
     · -- 15 comes first
      refine o_alloc rfl ti26 fun b5 => ?_
      refine l_nil ?_
      refine q_conv (fun w S => S.perm p4) ?_
      refine q_conv (fun w S => S.perm p1) ?_
      refine q_conv (fun w S => S.perm p4) ?_
      refine q_conv (fun w S => S.perm p4) ?_
      refine q_conv (fun w S => S.perm p4) ?_
      refine h_next ?_
      refine h_one 7 rfl (by kernel_rfl) ?_
      refine l_f1 ?_
      refine l_f4 ?_
      refine o_call rfl cal29 rfl (small_ ok16) ?_
      rintro _ _ ⟨ys18, ay18, cy18, ok18, rfl, rfl⟩
      have dr18 : ys18 = ys16.drop (numR 0 0 ys16).2.2 := EyeOk.next ok16 ok18
      refine l_nil ?_
      refine q_conv (fun w S => S.perm p4) ?_
      refine q_conv (fun w S => S.perm p1) ?_
      refine q_conv (fun w S => S.perm p4) ?_
      refine q_conv (fun w S => S.perm p3) ?_
      refine q_conv (fun w S => S.perm p4) ?_
      refine h_next ?_
      refine h_one 9 rfl (by kernel_rfl) ?_
      refine l_f1 ?_
      refine l_f3 ?_
      refine o_call rfl cal29 rfl (small_ ok18) ?_
      rintro _ _ ⟨ys20, ay20, cy20, ok20, rfl, rfl⟩
      have dr20 : ys20 = ys18.drop (numR 0 0 ys18).2.2 := EyeOk.next ok18 ok20
      refine l_nil ?_
      refine q_conv (fun w S => S.perm p4) ?_
      refine q_conv (fun w S => S.perm p1) ?_
      refine q_conv (fun w S => S.perm p4) ?_
      refine q_conv (fun w S => S.perm p3) ?_
      refine q_conv (fun w S => S.perm p4) ?_
      refine h_next ?_
      refine h_one 11 rfl (by kernel_rfl) ?_
      refine l_f1 ?_
      refine l_f3 ?_
      refine o_call rfl cal30 rfl (num_ ok20) ?_
      rintro _ _ ⟨ys22, ay22, cy22, ok22, rfl, rfl⟩
      have dr22 : ys22 = ys20.drop (numR 0 0 ys20).2.2 := EyeOk.next ok20 ok22
      refine l_nil ?_
      refine q_conv (fun w S => S.perm p4) ?_
      refine q_conv (fun w S => S.perm p1) ?_
      refine q_conv (fun w S => S.perm p4) ?_
      refine q_conv (fun w S => S.perm p3) ?_
      refine q_conv (fun w S => S.perm p4) ?_
      refine h_next ?_
      refine h_one 13 rfl (by kernel_rfl) ?_
      refine l_f1 ?_
      refine l_f3 ?_
      refine o_call rfl cal31 rfl (text_ ok22) ?_
      rintro _ _ ⟨ys24, ay24, cy24, ok24, rfl, rfl⟩
      have dr24 : ys24 = ys22.drop (textR ys22).2.2 := EyeOk.next ok22 ok24
      refine l_nil ?_
      refine q_conv (fun w S => S.perm p4) ?_
      refine q_conv (fun w S => S.perm p1) ?_
      refine q_conv (fun w S => S.perm p4) ?_
      refine q_conv (fun w S => S.perm p3) ?_
      refine q_conv (fun w S => S.perm p4) ?_
      refine h_next ?_
      refine h_take 14 rfl rfl (by kernel_rfl) (by kernel_rfl) (by kernel_rfl) (fun L0 => v_build rfl sp26 ti26 rfl ((fill_cons (cells' := [.int .i64 ((min (numR 0 0 bs).1 2147483647 : Nat) : Int), .int .i64 0, .int .i64 0, .int .i64 0, .int .i64 0, .int .u64 0, .string ByteArray.empty, .slice none 0 0]) rfl rfl rfl rfl (fill_cons (cells' := [.int .i64 ((min (numR 0 0 bs).1 2147483647 : Nat) : Int), .int .i64 ((min (numR 0 0 ys12).1 2147483647 : Nat) : Int), .int .i64 0, .int .i64 0, .int .i64 0, .int .u64 0, .string ByteArray.empty, .slice none 0 0]) rfl rfl rfl rfl (fill_cons (cells' := [.int .i64 ((min (numR 0 0 bs).1 2147483647 : Nat) : Int), .int .i64 ((min (numR 0 0 ys12).1 2147483647 : Nat) : Int), .int .i64 ((min (numR 0 0 ys14).1 2147483647 : Nat) : Int), .int .i64 0, .int .i64 0, .int .u64 0, .string ByteArray.empty, .slice none 0 0]) rfl rfl rfl rfl (fill_cons (cells' := [.int .i64 ((min (numR 0 0 bs).1 2147483647 : Nat) : Int), .int .i64 ((min (numR 0 0 ys12).1 2147483647 : Nat) : Int), .int .i64 ((min (numR 0 0 ys14).1 2147483647 : Nat) : Int), .int .i64 ((min (numR 0 0 ys16).1 2147483647 : Nat) : Int), .int .i64 0, .int .u64 0, .string ByteArray.empty, .slice none 0 0]) rfl rfl rfl rfl (fill_cons (cells' := [.int .i64 ((min (numR 0 0 bs).1 2147483647 : Nat) : Int), .int .i64 ((min (numR 0 0 ys12).1 2147483647 : Nat) : Int), .int .i64 ((min (numR 0 0 ys14).1 2147483647 : Nat) : Int), .int .i64 ((min (numR 0 0 ys16).1 2147483647 : Nat) : Int), .int .i64 ((min (numR 0 0 ys18).1 2147483647 : Nat) : Int), .int .u64 0, .string ByteArray.empty, .slice none 0 0]) rfl rfl rfl rfl (fill_cons (cells' := [.int .i64 ((min (numR 0 0 bs).1 2147483647 : Nat) : Int), .int .i64 ((min (numR 0 0 ys12).1 2147483647 : Nat) : Int), .int .i64 ((min (numR 0 0 ys14).1 2147483647 : Nat) : Int), .int .i64 ((min (numR 0 0 ys16).1 2147483647 : Nat) : Int), .int .i64 ((min (numR 0 0 ys18).1 2147483647 : Nat) : Int), .int .u64 ((numR 0 0 ys20).1 : Int), .string ByteArray.empty, .slice none 0 0]) rfl rfl rfl rfl (fill_cons (cells' := [.int .i64 ((min (numR 0 0 bs).1 2147483647 : Nat) : Int), .int .i64 ((min (numR 0 0 ys12).1 2147483647 : Nat) : Int), .int .i64 ((min (numR 0 0 ys14).1 2147483647 : Nat) : Int), .int .i64 ((min (numR 0 0 ys16).1 2147483647 : Nat) : Int), .int .i64 ((min (numR 0 0 ys18).1 2147483647 : Nat) : Int), .int .u64 ((numR 0 0 ys20).1 : Int), .string (bts (textR ys22).1), .slice none 0 0]) rfl rfl rfl rfl fill_nil))))))))) ?_
      refine h_one 16 rfl (by kernel_rfl) ?_
      refine l_f4 ?_
      refine o_storen rfl rfl ti26 rfl rfl rfl rfl ?_
      refine l_nil ?_
      refine q_conv (fun w S => S.perm p4) ?_
      refine q_conv (fun w S => S.perm p1) ?_
      refine q_conv (fun w S => S.perm p4) ?_
      refine q_conv (fun w S => S.perm p4) ?_
      refine q_conv (fun w S => S.perm p4) ?_
      refine h_next ?_
      refine h_done (by kernel_rfl) ?_
      refine q_conv (fun w S => S.perm p2) ?_
      refine q_conv (fun w S => S.perm p1) ?_
      refine q_conv (fun w S => S.perm p2) ?_
      refine q_conv (fun w S => S.perm p4) ?_
      refine q_conv (fun w S => S.perm p4) ?_
      exact q_mid (b5, ys12, ys14, ys16, ys18, ys20, ys22, ys24, ay24, cy24, _) (by exact ⟨ok24, dr12, dr14, dr16, dr18, dr20, dr22, dr24⟩) ⟨(by first | rfl | exact vint (by omega)), (by first | rfl | exact vint (by omega)), (by first | rfl | exact vint (by omega)), (by first | rfl | exact vint (by omega)), (by first | rfl | exact vint (by omega)), (by first | rfl | exact vint (by omega)), (by first | rfl | exact vint (by omega)), (by first | rfl | exact vint (by omega)), (by first | rfl | exact vint (by omega)), (by first | rfl | exact vint (by omega)), (by first | rfl | exact vint (by omega)), (by first | rfl | exact vint (by omega)), (by first | rfl | exact vint (by omega)), (by first | rfl | exact vint (by omega)), (by first | rfl | exact vint (by omega)), (by first | rfl | exact vint (by omega)), (by first | rfl | exact vint (by omega)), (by first | rfl | exact vint (by omega)), (by first | rfl | exact vint (by omega)), (by first | rfl | exact vint (by omega)), (by first | rfl | exact vint (by omega)), (by first | rfl | exact vint (by omega)), (by first | rfl | exact vint (by omega)), trivial⟩ (fun w S => S)
    · -- 15 comes first
     refine o_alloc rfl ti26 fun b5 => ?_
     refine l_nil ?_
     refine q_conv (fun w S => S.perm p4) ?_
     refine q_conv (fun w S => S.perm p1) ?_
     refine q_conv (fun w S => S.perm p4) ?_
     refine q_conv (fun w S => S.perm p4) ?_
     refine q_conv (fun w S => S.perm p4) ?_
     refine h_next ?_
     refine h_one 5 rfl (by kernel_rfl) ?_
     refine l_f1 ?_
     refine l_f4 ?_
     refine o_call rfl cal29 rfl (small_ ok14) ?_
     rintro _ _ ⟨ys16, ay16, cy16, ok16, rfl, rfl⟩
     have dr16 : ys16 = ys14.drop (numR 0 0 ys14).2.2 := EyeOk.next ok14 ok16
     refine l_nil ?_
     refine q_conv (fun w S => S.perm p4) ?_
     refine q_conv (fun w S => S.perm p1) ?_
     refine q_conv (fun w S => S.perm p4) ?_
     refine q_conv (fun w S => S.perm p3) ?_
     refine q_conv (fun w S => S.perm p4) ?_
     refine h_next ?_
     refine h_one 7 rfl (by kernel_rfl) ?_
     refine l_f1 ?_
     refine l_f3 ?_
     refine o_call rfl cal29 rfl (small_ ok16) ?_
     rintro _ _ ⟨ys18, ay18, cy18, ok18, rfl, rfl⟩
     have dr18 : ys18 = ys16.drop (numR 0 0 ys16).2.2 := EyeOk.next ok16 ok18
     refine l_nil ?_
     refine q_conv (fun w S => S.perm p4) ?_
     refine q_conv (fun w S => S.perm p1) ?_
     refine q_conv (fun w S => S.perm p4) ?_
     refine q_conv (fun w S => S.perm p3) ?_
     refine q_conv (fun w S => S.perm p4) ?_
     refine h_next ?_
     refine h_one 9 rfl (by kernel_rfl) ?_
     refine l_f1 ?_
     refine l_f3 ?_
     refine o_call rfl cal29 rfl (small_ ok18) ?_
     rintro _ _ ⟨ys20, ay20, cy20, ok20, rfl, rfl⟩
     have dr20 : ys20 = ys18.drop (numR 0 0 ys18).2.2 := EyeOk.next ok18 ok20
     refine l_nil ?_
     refine q_conv (fun w S => S.perm p4) ?_
     refine q_conv (fun w S => S.perm p1) ?_
     refine q_conv (fun w S => S.perm p4) ?_
     refine q_conv (fun w S => S.perm p3) ?_
     refine q_conv (fun w S => S.perm p4) ?_
     refine h_next ?_
     refine h_one 11 rfl (by kernel_rfl) ?_
     refine l_f1 ?_
     refine l_f3 ?_
     refine o_call rfl cal30 rfl (num_ ok20) ?_
     rintro _ _ ⟨ys22, ay22, cy22, ok22, rfl, rfl⟩
     have dr22 : ys22 = ys20.drop (numR 0 0 ys20).2.2 := EyeOk.next ok20 ok22
     refine l_nil ?_
     refine q_conv (fun w S => S.perm p4) ?_
     refine q_conv (fun w S => S.perm p1) ?_
     refine q_conv (fun w S => S.perm p4) ?_
     refine q_conv (fun w S => S.perm p3) ?_
     refine q_conv (fun w S => S.perm p4) ?_
     refine h_next ?_
     refine h_one 13 rfl (by kernel_rfl) ?_
     refine l_f1 ?_
     refine l_f3 ?_
     refine o_call rfl cal31 rfl (text_ ok22) ?_
     rintro _ _ ⟨ys24, ay24, cy24, ok24, rfl, rfl⟩
     have dr24 : ys24 = ys22.drop (textR ys22).2.2 := EyeOk.next ok22 ok24
     refine l_nil ?_
     refine q_conv (fun w S => S.perm p4) ?_
     refine q_conv (fun w S => S.perm p1) ?_
     refine q_conv (fun w S => S.perm p4) ?_
     refine q_conv (fun w S => S.perm p3) ?_
     refine q_conv (fun w S => S.perm p4) ?_
     refine h_next ?_
     refine h_take 14 rfl rfl (by kernel_rfl) (by kernel_rfl) (by kernel_rfl) (fun L0 => v_build rfl sp26 ti26 rfl ((fill_cons (cells' := [.int .i64 ((min (numR 0 0 bs).1 2147483647 : Nat) : Int), .int .i64 0, .int .i64 0, .int .i64 0, .int .i64 0, .int .u64 0, .string ByteArray.empty, .slice none 0 0]) rfl rfl rfl rfl (fill_cons (cells' := [.int .i64 ((min (numR 0 0 bs).1 2147483647 : Nat) : Int), .int .i64 ((min (numR 0 0 ys12).1 2147483647 : Nat) : Int), .int .i64 0, .int .i64 0, .int .i64 0, .int .u64 0, .string ByteArray.empty, .slice none 0 0]) rfl rfl rfl rfl (fill_cons (cells' := [.int .i64 ((min (numR 0 0 bs).1 2147483647 : Nat) : Int), .int .i64 ((min (numR 0 0 ys12).1 2147483647 : Nat) : Int), .int .i64 ((min (numR 0 0 ys14).1 2147483647 : Nat) : Int), .int .i64 0, .int .i64 0, .int .u64 0, .string ByteArray.empty, .slice none 0 0]) rfl rfl rfl rfl (fill_cons (cells' := [.int .i64 ((min (numR 0 0 bs).1 2147483647 : Nat) : Int), .int .i64 ((min (numR 0 0 ys12).1 2147483647 : Nat) : Int), .int .i64 ((min (numR 0 0 ys14).1 2147483647 : Nat) : Int), .int .i64 ((min (numR 0 0 ys16).1 2147483647 : Nat) : Int), .int .i64 0, .int .u64 0, .string ByteArray.empty, .slice none 0 0]) rfl rfl rfl rfl (fill_cons (cells' := [.int .i64 ((min (numR 0 0 bs).1 2147483647 : Nat) : Int), .int .i64 ((min (numR 0 0 ys12).1 2147483647 : Nat) : Int), .int .i64 ((min (numR 0 0 ys14).1 2147483647 : Nat) : Int), .int .i64 ((min (numR 0 0 ys16).1 2147483647 : Nat) : Int), .int .i64 ((min (numR 0 0 ys18).1 2147483647 : Nat) : Int), .int .u64 0, .string ByteArray.empty, .slice none 0 0]) rfl rfl rfl rfl (fill_cons (cells' := [.int .i64 ((min (numR 0 0 bs).1 2147483647 : Nat) : Int), .int .i64 ((min (numR 0 0 ys12).1 2147483647 : Nat) : Int), .int .i64 ((min (numR 0 0 ys14).1 2147483647 : Nat) : Int), .int .i64 ((min (numR 0 0 ys16).1 2147483647 : Nat) : Int), .int .i64 ((min (numR 0 0 ys18).1 2147483647 : Nat) : Int), .int .u64 ((numR 0 0 ys20).1 : Int), .string ByteArray.empty, .slice none 0 0]) rfl rfl rfl rfl (fill_cons (cells' := [.int .i64 ((min (numR 0 0 bs).1 2147483647 : Nat) : Int), .int .i64 ((min (numR 0 0 ys12).1 2147483647 : Nat) : Int), .int .i64 ((min (numR 0 0 ys14).1 2147483647 : Nat) : Int), .int .i64 ((min (numR 0 0 ys16).1 2147483647 : Nat) : Int), .int .i64 ((min (numR 0 0 ys18).1 2147483647 : Nat) : Int), .int .u64 ((numR 0 0 ys20).1 : Int), .string (bts (textR ys22).1), .slice none 0 0]) rfl rfl rfl rfl fill_nil))))))))) ?_
     refine h_one 16 rfl (by kernel_rfl) ?_
     refine l_f4 ?_
     refine o_storen rfl rfl ti26 rfl rfl rfl rfl ?_
     refine l_nil ?_
     refine q_conv (fun w S => S.perm p4) ?_
     refine q_conv (fun w S => S.perm p1) ?_
     refine q_conv (fun w S => S.perm p4) ?_
     refine q_conv (fun w S => S.perm p4) ?_
     refine q_conv (fun w S => S.perm p4) ?_
     refine h_next ?_
     refine h_done (by kernel_rfl) ?_
     refine q_conv (fun w S => S.perm p2) ?_
     refine q_conv (fun w S => S.perm p1) ?_
     refine q_conv (fun w S => S.perm p2) ?_
     refine q_conv (fun w S => S.perm p4) ?_
     refine q_conv (fun w S => S.perm p4) ?_
     exact q_mid (b5, ys12, ys14, ys16, ys18, ys20, ys22, ys24, ay24, cy24, _) (by exact ⟨ok24, dr12, dr14, dr16, dr18, dr20, dr22, dr24⟩) ⟨(by first | rfl | exact vint (by omega)), (by first | rfl | exact vint (by omega)), (by first | rfl | exact vint (by omega)), (by first | rfl | exact vint (by omega)), (by first | rfl | exact vint (by omega)), (by first | rfl | exact vint (by omega)), (by first | rfl | exact vint (by omega)), (by first | rfl | exact vint (by omega)), (by first | rfl | exact vint (by omega)), (by first | rfl | exact vint (by omega)), (by first | rfl | exact vint (by omega)), (by first | rfl | exact vint (by omega)), (by first | rfl | exact vint (by omega)), (by first | rfl | exact vint (by omega)), (by first | rfl | exact vint (by omega)), (by first | rfl | exact vint (by omega)), (by first | rfl | exact vint (by omega)), (by first | rfl | exact vint (by omega)), (by first | rfl | exact vint (by omega)), (by first | rfl | exact vint (by omega)), (by first | rfl | exact vint (by omega)), (by first | rfl | exact vint (by omega)), (by first | rfl | exact vint (by omega)), trivial⟩ (fun w S => S)
   · -- 15 comes first
    refine o_alloc rfl ti26 fun b5 => ?_
    refine l_nil ?_
    refine q_conv (fun w S => S.perm p4) ?_
    refine q_conv (fun w S => S.perm p1) ?_
    refine q_conv (fun w S => S.perm p4) ?_
    refine q_conv (fun w S => S.perm p4) ?_
    refine q_conv (fun w S => S.perm p4) ?_
    refine h_next ?_
    refine h_one 3 rfl (by kernel_rfl) ?_
    refine l_f1 ?_
    refine l_f4 ?_
    refine o_call rfl cal29 rfl (small_ ok12) ?_
    rintro _ _ ⟨ys14, ay14, cy14, ok14, rfl, rfl⟩
    have dr14 : ys14 = ys12.drop (numR 0 0 ys12).2.2 := EyeOk.next ok12 ok14
    refine l_nil ?_
    refine q_conv (fun w S => S.perm p4) ?_
    refine q_conv (fun w S => S.perm p1) ?_
    refine q_conv (fun w S => S.perm p4) ?_
    refine q_conv (fun w S => S.perm p3) ?_
    refine q_conv (fun w S => S.perm p4) ?_
    refine h_next ?_
    refine h_one 5 rfl (by kernel_rfl) ?_
    refine l_f1 ?_
    refine l_f3 ?_
    refine o_call rfl cal29 rfl (small_ ok14) ?_
    rintro _ _ ⟨ys16, ay16, cy16, ok16, rfl, rfl⟩
    have dr16 : ys16 = ys14.drop (numR 0 0 ys14).2.2 := EyeOk.next ok14 ok16
    refine l_nil ?_
    refine q_conv (fun w S => S.perm p4) ?_
    refine q_conv (fun w S => S.perm p1) ?_
    refine q_conv (fun w S => S.perm p4) ?_
    refine q_conv (fun w S => S.perm p3) ?_
    refine q_conv (fun w S => S.perm p4) ?_
    refine h_next ?_
    refine h_one 7 rfl (by kernel_rfl) ?_
    refine l_f1 ?_
    refine l_f3 ?_
    refine o_call rfl cal29 rfl (small_ ok16) ?_
    rintro _ _ ⟨ys18, ay18, cy18, ok18, rfl, rfl⟩
    have dr18 : ys18 = ys16.drop (numR 0 0 ys16).2.2 := EyeOk.next ok16 ok18
    refine l_nil ?_
    refine q_conv (fun w S => S.perm p4) ?_
    refine q_conv (fun w S => S.perm p1) ?_
    refine q_conv (fun w S => S.perm p4) ?_
    refine q_conv (fun w S => S.perm p3) ?_
    refine q_conv (fun w S => S.perm p4) ?_
    refine h_next ?_
    refine h_one 9 rfl (by kernel_rfl) ?_
    refine l_f1 ?_
    refine l_f3 ?_
    refine o_call rfl cal29 rfl (small_ ok18) ?_
    rintro _ _ ⟨ys20, ay20, cy20, ok20, rfl, rfl⟩
    have dr20 : ys20 = ys18.drop (numR 0 0 ys18).2.2 := EyeOk.next ok18 ok20
    refine l_nil ?_
    refine q_conv (fun w S => S.perm p4) ?_
    refine q_conv (fun w S => S.perm p1) ?_
    refine q_conv (fun w S => S.perm p4) ?_
    refine q_conv (fun w S => S.perm p3) ?_
    refine q_conv (fun w S => S.perm p4) ?_
    refine h_next ?_
    refine h_one 11 rfl (by kernel_rfl) ?_
    refine l_f1 ?_
    refine l_f3 ?_
    refine o_call rfl cal30 rfl (num_ ok20) ?_
    rintro _ _ ⟨ys22, ay22, cy22, ok22, rfl, rfl⟩
    have dr22 : ys22 = ys20.drop (numR 0 0 ys20).2.2 := EyeOk.next ok20 ok22
    refine l_nil ?_
    refine q_conv (fun w S => S.perm p4) ?_
    refine q_conv (fun w S => S.perm p1) ?_
    refine q_conv (fun w S => S.perm p4) ?_
    refine q_conv (fun w S => S.perm p3) ?_
    refine q_conv (fun w S => S.perm p4) ?_
    refine h_next ?_
    refine h_one 13 rfl (by kernel_rfl) ?_
    refine l_f1 ?_
    refine l_f3 ?_
    refine o_call rfl cal31 rfl (text_ ok22) ?_
    rintro _ _ ⟨ys24, ay24, cy24, ok24, rfl, rfl⟩
    have dr24 : ys24 = ys22.drop (textR ys22).2.2 := EyeOk.next ok22 ok24
    refine l_nil ?_
    refine q_conv (fun w S => S.perm p4) ?_
    refine q_conv (fun w S => S.perm p1) ?_
    refine q_conv (fun w S => S.perm p4) ?_
    refine q_conv (fun w S => S.perm p3) ?_
    refine q_conv (fun w S => S.perm p4) ?_
    refine h_next ?_
    refine h_take 14 rfl rfl (by kernel_rfl) (by kernel_rfl) (by kernel_rfl) (fun L0 => v_build rfl sp26 ti26 rfl ((fill_cons (cells' := [.int .i64 ((min (numR 0 0 bs).1 2147483647 : Nat) : Int), .int .i64 0, .int .i64 0, .int .i64 0, .int .i64 0, .int .u64 0, .string ByteArray.empty, .slice none 0 0]) rfl rfl rfl rfl (fill_cons (cells' := [.int .i64 ((min (numR 0 0 bs).1 2147483647 : Nat) : Int), .int .i64 ((min (numR 0 0 ys12).1 2147483647 : Nat) : Int), .int .i64 0, .int .i64 0, .int .i64 0, .int .u64 0, .string ByteArray.empty, .slice none 0 0]) rfl rfl rfl rfl (fill_cons (cells' := [.int .i64 ((min (numR 0 0 bs).1 2147483647 : Nat) : Int), .int .i64 ((min (numR 0 0 ys12).1 2147483647 : Nat) : Int), .int .i64 ((min (numR 0 0 ys14).1 2147483647 : Nat) : Int), .int .i64 0, .int .i64 0, .int .u64 0, .string ByteArray.empty, .slice none 0 0]) rfl rfl rfl rfl (fill_cons (cells' := [.int .i64 ((min (numR 0 0 bs).1 2147483647 : Nat) : Int), .int .i64 ((min (numR 0 0 ys12).1 2147483647 : Nat) : Int), .int .i64 ((min (numR 0 0 ys14).1 2147483647 : Nat) : Int), .int .i64 ((min (numR 0 0 ys16).1 2147483647 : Nat) : Int), .int .i64 0, .int .u64 0, .string ByteArray.empty, .slice none 0 0]) rfl rfl rfl rfl (fill_cons (cells' := [.int .i64 ((min (numR 0 0 bs).1 2147483647 : Nat) : Int), .int .i64 ((min (numR 0 0 ys12).1 2147483647 : Nat) : Int), .int .i64 ((min (numR 0 0 ys14).1 2147483647 : Nat) : Int), .int .i64 ((min (numR 0 0 ys16).1 2147483647 : Nat) : Int), .int .i64 ((min (numR 0 0 ys18).1 2147483647 : Nat) : Int), .int .u64 0, .string ByteArray.empty, .slice none 0 0]) rfl rfl rfl rfl (fill_cons (cells' := [.int .i64 ((min (numR 0 0 bs).1 2147483647 : Nat) : Int), .int .i64 ((min (numR 0 0 ys12).1 2147483647 : Nat) : Int), .int .i64 ((min (numR 0 0 ys14).1 2147483647 : Nat) : Int), .int .i64 ((min (numR 0 0 ys16).1 2147483647 : Nat) : Int), .int .i64 ((min (numR 0 0 ys18).1 2147483647 : Nat) : Int), .int .u64 ((numR 0 0 ys20).1 : Int), .string ByteArray.empty, .slice none 0 0]) rfl rfl rfl rfl (fill_cons (cells' := [.int .i64 ((min (numR 0 0 bs).1 2147483647 : Nat) : Int), .int .i64 ((min (numR 0 0 ys12).1 2147483647 : Nat) : Int), .int .i64 ((min (numR 0 0 ys14).1 2147483647 : Nat) : Int), .int .i64 ((min (numR 0 0 ys16).1 2147483647 : Nat) : Int), .int .i64 ((min (numR 0 0 ys18).1 2147483647 : Nat) : Int), .int .u64 ((numR 0 0 ys20).1 : Int), .string (bts (textR ys22).1), .slice none 0 0]) rfl rfl rfl rfl fill_nil))))))))) ?_
    refine h_one 16 rfl (by kernel_rfl) ?_
    refine l_f4 ?_
    refine o_storen rfl rfl ti26 rfl rfl rfl rfl ?_
    refine l_nil ?_
    refine q_conv (fun w S => S.perm p4) ?_
    refine q_conv (fun w S => S.perm p1) ?_
    refine q_conv (fun w S => S.perm p4) ?_
    refine q_conv (fun w S => S.perm p4) ?_
    refine q_conv (fun w S => S.perm p4) ?_
    refine h_next ?_
    refine h_done (by kernel_rfl) ?_
    refine q_conv (fun w S => S.perm p2) ?_
    refine q_conv (fun w S => S.perm p1) ?_
    refine q_conv (fun w S => S.perm p2) ?_
    refine q_conv (fun w S => S.perm p4) ?_
    refine q_conv (fun w S => S.perm p4) ?_
    exact q_mid (b5, ys12, ys14, ys16, ys18, ys20, ys22, ys24, ay24, cy24, _) (by exact ⟨ok24, dr12, dr14, dr16, dr18, dr20, dr22, dr24⟩) ⟨(by first | rfl | exact vint (by omega)), (by first | rfl | exact vint (by omega)), (by first | rfl | exact vint (by omega)), (by first | rfl | exact vint (by omega)), (by first | rfl | exact vint (by omega)), (by first | rfl | exact vint (by omega)), (by first | rfl | exact vint (by omega)), (by first | rfl | exact vint (by omega)), (by first | rfl | exact vint (by omega)), (by first | rfl | exact vint (by omega)), (by first | rfl | exact vint (by omega)), (by first | rfl | exact vint (by omega)), (by first | rfl | exact vint (by omega)), (by first | rfl | exact vint (by omega)), (by first | rfl | exact vint (by omega)), (by first | rfl | exact vint (by omega)), (by first | rfl | exact vint (by omega)), (by first | rfl | exact vint (by omega)), (by first | rfl | exact vint (by omega)), (by first | rfl | exact vint (by omega)), (by first | rfl | exact vint (by omega)), (by first | rfl | exact vint (by omega)), (by first | rfl | exact vint (by omega)), trivial⟩ (fun w S => S)
  · -- 15 comes first
   refine o_alloc rfl ti26 fun b5 => ?_
   refine l_nil ?_
   refine q_conv (fun w S => S.perm p4) ?_
   refine q_conv (fun w S => S.perm p1) ?_
   refine q_conv (fun w S => S.perm p4) ?_
   refine q_conv (fun w S => S.perm p4) ?_
   refine q_conv (fun w S => S.perm p4) ?_
   refine h_next ?_
   refine h_one 1 rfl (by kernel_rfl) ?_
   refine l_f1 ?_
   refine l_f4 ?_
   refine o_call rfl cal29 rfl (small_ ok9) ?_
   rintro _ _ ⟨ys12, ay12, cy12, ok12, rfl, rfl⟩
   have dr12 : ys12 = bs.drop (numR 0 0 bs).2.2 := EyeOk.next ok9 ok12
   refine l_nil ?_
   refine q_conv (fun w S => S.perm p4) ?_
   refine q_conv (fun w S => S.perm p1) ?_
   refine q_conv (fun w S => S.perm p4) ?_
   refine q_conv (fun w S => S.perm p3) ?_
   refine q_conv (fun w S => S.perm p4) ?_
   refine h_next ?_
   refine h_one 3 rfl (by kernel_rfl) ?_
   refine l_f1 ?_
   refine l_f3 ?_
   refine o_call rfl cal29 rfl (small_ ok12) ?_
   rintro _ _ ⟨ys14, ay14, cy14, ok14, rfl, rfl⟩
   have dr14 : ys14 = ys12.drop (numR 0 0 ys12).2.2 := EyeOk.next ok12 ok14
   refine l_nil ?_
   refine q_conv (fun w S => S.perm p4) ?_
   refine q_conv (fun w S => S.perm p1) ?_
   refine q_conv (fun w S => S.perm p4) ?_
   refine q_conv (fun w S => S.perm p3) ?_
   refine q_conv (fun w S => S.perm p4) ?_
   refine h_next ?_
   refine h_one 5 rfl (by kernel_rfl) ?_
   refine l_f1 ?_
   refine l_f3 ?_
   refine o_call rfl cal29 rfl (small_ ok14) ?_
   rintro _ _ ⟨ys16, ay16, cy16, ok16, rfl, rfl⟩
   have dr16 : ys16 = ys14.drop (numR 0 0 ys14).2.2 := EyeOk.next ok14 ok16
   refine l_nil ?_
   refine q_conv (fun w S => S.perm p4) ?_
   refine q_conv (fun w S => S.perm p1) ?_
   refine q_conv (fun w S => S.perm p4) ?_
   refine q_conv (fun w S => S.perm p3) ?_
   refine q_conv (fun w S => S.perm p4) ?_
   refine h_next ?_
   refine h_one 7 rfl (by kernel_rfl) ?_
   refine l_f1 ?_
   refine l_f3 ?_
   refine o_call rfl cal29 rfl (small_ ok16) ?_
   rintro _ _ ⟨ys18, ay18, cy18, ok18, rfl, rfl⟩
   have dr18 : ys18 = ys16.drop (numR 0 0 ys16).2.2 := EyeOk.next ok16 ok18
   refine l_nil ?_
   refine q_conv (fun w S => S.perm p4) ?_
   refine q_conv (fun w S => S.perm p1) ?_
   refine q_conv (fun w S => S.perm p4) ?_
   refine q_conv (fun w S => S.perm p3) ?_
   refine q_conv (fun w S => S.perm p4) ?_
   refine h_next ?_
   refine h_one 9 rfl (by kernel_rfl) ?_
   refine l_f1 ?_
   refine l_f3 ?_
   refine o_call rfl cal29 rfl (small_ ok18) ?_
   rintro _ _ ⟨ys20, ay20, cy20, ok20, rfl, rfl⟩
   have dr20 : ys20 = ys18.drop (numR 0 0 ys18).2.2 := EyeOk.next ok18 ok20
   refine l_nil ?_
   refine q_conv (fun w S => S.perm p4) ?_
   refine q_conv (fun w S => S.perm p1) ?_
   refine q_conv (fun w S => S.perm p4) ?_
   refine q_conv (fun w S => S.perm p3) ?_
   refine q_conv (fun w S => S.perm p4) ?_
   refine h_next ?_
   refine h_one 11 rfl (by kernel_rfl) ?_
   refine l_f1 ?_
   refine l_f3 ?_
   refine o_call rfl cal30 rfl (num_ ok20) ?_
   rintro _ _ ⟨ys22, ay22, cy22, ok22, rfl, rfl⟩
   have dr22 : ys22 = ys20.drop (numR 0 0 ys20).2.2 := EyeOk.next ok20 ok22
   refine l_nil ?_
   refine q_conv (fun w S => S.perm p4) ?_
   refine q_conv (fun w S => S.perm p1) ?_
   refine q_conv (fun w S => S.perm p4) ?_
   refine q_conv (fun w S => S.perm p3) ?_
   refine q_conv (fun w S => S.perm p4) ?_
   refine h_next ?_
   refine h_one 13 rfl (by kernel_rfl) ?_
   refine l_f1 ?_
   refine l_f3 ?_
   refine o_call rfl cal31 rfl (text_ ok22) ?_
   rintro _ _ ⟨ys24, ay24, cy24, ok24, rfl, rfl⟩
   have dr24 : ys24 = ys22.drop (textR ys22).2.2 := EyeOk.next ok22 ok24
   refine l_nil ?_
   refine q_conv (fun w S => S.perm p4) ?_
   refine q_conv (fun w S => S.perm p1) ?_
   refine q_conv (fun w S => S.perm p4) ?_
   refine q_conv (fun w S => S.perm p3) ?_
   refine q_conv (fun w S => S.perm p4) ?_
   refine h_next ?_
   refine h_take 14 rfl rfl (by kernel_rfl) (by kernel_rfl) (by kernel_rfl) (fun L0 => v_build rfl sp26 ti26 rfl ((fill_cons (cells' := [.int .i64 ((min (numR 0 0 bs).1 2147483647 : Nat) : Int), .int .i64 0, .int .i64 0, .int .i64 0, .int .i64 0, .int .u64 0, .string ByteArray.empty, .slice none 0 0]) rfl rfl rfl rfl (fill_cons (cells' := [.int .i64 ((min (numR 0 0 bs).1 2147483647 : Nat) : Int), .int .i64 ((min (numR 0 0 ys12).1 2147483647 : Nat) : Int), .int .i64 0, .int .i64 0, .int .i64 0, .int .u64 0, .string ByteArray.empty, .slice none 0 0]) rfl rfl rfl rfl (fill_cons (cells' := [.int .i64 ((min (numR 0 0 bs).1 2147483647 : Nat) : Int), .int .i64 ((min (numR 0 0 ys12).1 2147483647 : Nat) : Int), .int .i64 ((min (numR 0 0 ys14).1 2147483647 : Nat) : Int), .int .i64 0, .int .i64 0, .int .u64 0, .string ByteArray.empty, .slice none 0 0]) rfl rfl rfl rfl (fill_cons (cells' := [.int .i64 ((min (numR 0 0 bs).1 2147483647 : Nat) : Int), .int .i64 ((min (numR 0 0 ys12).1 2147483647 : Nat) : Int), .int .i64 ((min (numR 0 0 ys14).1 2147483647 : Nat) : Int), .int .i64 ((min (numR 0 0 ys16).1 2147483647 : Nat) : Int), .int .i64 0, .int .u64 0, .string ByteArray.empty, .slice none 0 0]) rfl rfl rfl rfl (fill_cons (cells' := [.int .i64 ((min (numR 0 0 bs).1 2147483647 : Nat) : Int), .int .i64 ((min (numR 0 0 ys12).1 2147483647 : Nat) : Int), .int .i64 ((min (numR 0 0 ys14).1 2147483647 : Nat) : Int), .int .i64 ((min (numR 0 0 ys16).1 2147483647 : Nat) : Int), .int .i64 ((min (numR 0 0 ys18).1 2147483647 : Nat) : Int), .int .u64 0, .string ByteArray.empty, .slice none 0 0]) rfl rfl rfl rfl (fill_cons (cells' := [.int .i64 ((min (numR 0 0 bs).1 2147483647 : Nat) : Int), .int .i64 ((min (numR 0 0 ys12).1 2147483647 : Nat) : Int), .int .i64 ((min (numR 0 0 ys14).1 2147483647 : Nat) : Int), .int .i64 ((min (numR 0 0 ys16).1 2147483647 : Nat) : Int), .int .i64 ((min (numR 0 0 ys18).1 2147483647 : Nat) : Int), .int .u64 ((numR 0 0 ys20).1 : Int), .string ByteArray.empty, .slice none 0 0]) rfl rfl rfl rfl (fill_cons (cells' := [.int .i64 ((min (numR 0 0 bs).1 2147483647 : Nat) : Int), .int .i64 ((min (numR 0 0 ys12).1 2147483647 : Nat) : Int), .int .i64 ((min (numR 0 0 ys14).1 2147483647 : Nat) : Int), .int .i64 ((min (numR 0 0 ys16).1 2147483647 : Nat) : Int), .int .i64 ((min (numR 0 0 ys18).1 2147483647 : Nat) : Int), .int .u64 ((numR 0 0 ys20).1 : Int), .string (bts (textR ys22).1), .slice none 0 0]) rfl rfl rfl rfl fill_nil))))))))) ?_
   refine h_one 16 rfl (by kernel_rfl) ?_
   refine l_f4 ?_
   refine o_storen rfl rfl ti26 rfl rfl rfl rfl ?_
   refine l_nil ?_
   refine q_conv (fun w S => S.perm p4) ?_
   refine q_conv (fun w S => S.perm p1) ?_
   refine q_conv (fun w S => S.perm p4) ?_
   refine q_conv (fun w S => S.perm p4) ?_
   refine q_conv (fun w S => S.perm p4) ?_
   refine h_next ?_
   refine h_done (by kernel_rfl) ?_
   refine q_conv (fun w S => S.perm p2) ?_
   refine q_conv (fun w S => S.perm p1) ?_
   refine q_conv (fun w S => S.perm p2) ?_
   refine q_conv (fun w S => S.perm p4) ?_
   refine q_conv (fun w S => S.perm p4) ?_
   exact q_mid (b5, ys12, ys14, ys16, ys18, ys20, ys22, ys24, ay24, cy24, _) (by exact ⟨ok24, dr12, dr14, dr16, dr18, dr20, dr22, dr24⟩) ⟨(by first | rfl | exact vint (by omega)), (by first | rfl | exact vint (by omega)), (by first | rfl | exact vint (by omega)), (by first | rfl | exact vint (by omega)), (by first | rfl | exact vint (by omega)), (by first | rfl | exact vint (by omega)), (by first | rfl | exact vint (by omega)), (by first | rfl | exact vint (by omega)), (by first | rfl | exact vint (by omega)), (by first | rfl | exact vint (by omega)), (by first | rfl | exact vint (by omega)), (by first | rfl | exact vint (by omega)), (by first | rfl | exact vint (by omega)), (by first | rfl | exact vint (by omega)), (by first | rfl | exact vint (by omega)), (by first | rfl | exact vint (by omega)), (by first | rfl | exact vint (by omega)), (by first | rfl | exact vint (by omega)), (by first | rfl | exact vint (by omega)), (by first | rfl | exact vint (by omega)), (by first | rfl | exact vint (by omega)), (by first | rfl | exact vint (by omega)), (by first | rfl | exact vint (by omega)), trivial⟩ (fun w S => S)
 · -- behind the cut
  rintro ⟨b5, ys12, ys14, ys16, ys18, ys20, ys22, ys24, ay24, cy24, i24⟩ ⟨ok24, dr12, dr14, dr16, dr18, dr20, dr22, dr24⟩
  try dsimp only at *
  refine c_seq ?_
  refine c_seq ?_
  refine c_nilrow e_Vote ?_
  refine c_region ?_
  refine o_loadn (vs := [_]) rfl rfl Try.underlying69 rfl ti69 (rdn_lit 4 rfl rfl) ?_
  refine l_f3 ?_
  refine l_f3 ?_
  refine o_call rfl cal29 rfl (small_ ok24) ?_
  rintro _ _ ⟨ys27, ay27, cy27, ok27, rfl, rfl⟩
  have dr27 : ys27 = ys24.drop (numR 0 0 ys24).2.2 := EyeOk.next ok24 ok27
  have hR := read7 rfl dr12 dr14 dr16 dr18 dr20 dr22 dr24 dr27
  obtain ⟨K28, hK28⟩ : ∃ K, K = min (min (numR 0 0 ys24).1 2147483647) 65 := ⟨_, rfl⟩
  rw [← hK28] at hR
  refine o_min rfl rfl rfl Try.underlying3 ?_
  refine l_eq (t := 28) (v' := .int .i64 (K28 : Int)) rfl (by exact congrArg (Value.int .i64) (by omega)) ?_
  refine o_move rfl rfl ?_
  refine l_nil ?_
  refine q_then ?_
  refine c_block ?_
  refine c_loop (α := Nat × (List Vote) × (Option Addr) × Nat × (List UInt8) × (Option Addr) × Nat × Nat) (fun z => [(0, .slice a (bs).length c), (2, .pointer (some ⟨b2, 0, none⟩)), (4, .pointer (some ⟨b4, 0, none⟩)), (5, .pointer (some ⟨b5, 0, none⟩)), (28, .int .i64 (K28 : Int)), (29, .int .i64 (z.1 : Int))]) (fun z => blk k9 (.cells #[.slice z.2.2.2.2.2.1 (z.2.2.2.2.1).length z.2.2.2.2.2.2.1] 85 (0, 0)) :: row e8.T e8.sz a9 (bs).length c9 (flat e8 bs) :: row e_Vote.T e_Vote.sz z.2.2.1 (z.2.1).length z.2.2.2.1 (flat e_Vote z.2.1) :: blk b5 (.cells #[.int .i64 ((min (numR 0 0 bs).1 2147483647 : Nat) : Int), .int .i64 ((min (numR 0 0 ys12).1 2147483647 : Nat) : Int), .int .i64 ((min (numR 0 0 ys14).1 2147483647 : Nat) : Int), .int .i64 ((min (numR 0 0 ys16).1 2147483647 : Nat) : Int), .int .i64 ((min (numR 0 0 ys18).1 2147483647 : Nat) : Int), .int .u64 ((numR 0 0 ys20).1 : Int), .string (bts (textR ys22).1), .slice z.2.2.1 (z.2.1).length z.2.2.2.1] 26 (0, 0)) :: blk b4 (.cells #[.pointer (some ⟨k9, 0, none⟩)] 69 (0, 0)) :: blk b2 (.cells #[.int .i64 0, .int .i64 0, .int .i64 0, .int .i64 0, .int .i64 0, .int .u64 0, .string ByteArray.empty, .slice none 0 0] 26 (0, 0)) :: F) (fun z => z.1 ≤ K28 ∧ EyeOk W a9 bs z.2.2.2.2.2.2.2 z.2.2.2.2.1 z.2.2.2.2.2.1 z.2.2.2.2.2.2.1 ∧ VInv bs K28 z.1 z.2.1 z.2.2.2.2.1) (fun z => K28 - z.1) (0, [], none, 0, ys27, ay27, cy27, _) (by exact ⟨Nat.zero_le _, ok27, VInv.start fun m g => (hR m g).2⟩) ⟨(by first | rfl | exact vint (by omega)), (by first | rfl | exact vint (by omega)), (by first | rfl | exact vint (by omega)), (by first | rfl | exact vint (by omega)), (by first | rfl | exact vint (by omega)), (by first | rfl | exact vint (by omega)), trivial⟩ (fun w S => S) ?_
  rintro ⟨i, vs, av, cv, ys, ay, cy, ei⟩ ⟨hi, oke, hV⟩
  try dsimp only at *
  refine c_seq ?_
  refine c_region ?_
  refine o_bin rfl rfl rfl b_lss ?_
  refine l_nil ?_
  refine q_then ?_
  refine c_seq ?_
  refine c_cond rfl (fun h1 => ?_) (fun h1 => ?_)
  · -- h1T
   have h1b := h1
   try simp only [decide_eq_true_eq] at h1
   refine c_skip ?_
   refine q_then ?_
   refine c_seq ?_
   refine c_block ?_
   refine c_conv (fun w S => S.perm p3) ?_
   refine c_conv (fun w S => S.perm p3) ?_
   refine c_conv (fun w S => S.perm p2) ?_
   refine c_conv (fun w S => S.perm p5) ?_
   refine c_conv (fun w S => S.perm p5) ?_
   refine c_conv (fun w S => S.perm p5) ?_
   refine c_held [row e8.T e8.sz a9 (bs).length c9 (flat e8 bs), blk b4 (.cells #[.pointer (some ⟨k9, 0, none⟩)] 69 (0, 0)), blk b2 (.cells #[.int .i64 0, .int .i64 0, .int .i64 0, .int .i64 0, .int .i64 0, .int .u64 0, .string ByteArray.empty, .slice none 0 0] 26 (0, 0))] (by kernel_rfl) rfl ?_
   refine h_take 0 rfl rfl (by kernel_rfl) (by kernel_rfl) (by kernel_rfl) (fun L0 => v_fieldAddr (q := ⟨b5, 7, none⟩) rfl rfl Try.underlying26 rfl ti24 rfl) ?_
   refine h_take 2 rfl rfl (by kernel_rfl) (by kernel_rfl) (by kernel_rfl) (fun L0 => v_loadn (vs := [_]) rfl rfl Try.underlying69 rfl ti69 (rdn_lit 1 rfl rfl)) ?_
   refine h_take 4 rfl rfl (by kernel_rfl) (by kernel_rfl) (by kernel_rfl) (fun L0 => v_loadn (vs := [_]) rfl rfl Try.underlying69 rfl ti69 (rdn_lit 1 rfl rfl)) ?_
   refine h_take 6 rfl rfl (by kernel_rfl) (by kernel_rfl) (by kernel_rfl) (fun L0 => v_loadn (vs := [_]) rfl rfl Try.underlying69 rfl ti69 (rdn_lit 1 rfl rfl)) ?_
   refine h_many (is := [1, 3]) (by kernel_rfl) (by decide) (forall_cons ⟨_, rfl, ?_⟩ (forall_cons ⟨_, rfl, ?_⟩ forall_nil))
   · -- 1 comes first
    refine o_load1 rfl rfl Try.underlying24 rfl (rd_mem 5 rfl rfl) ?_
    refine l_nil ?_
    refine h_next ?_
    refine h_one 3 rfl (by kernel_rfl) ?_
    refine l_f3 ?_
    refine o_call rfl cal29 rfl (small_ oke) ?_
    rintro _ _ ⟨ys34, ay34, cy34, ok34, rfl, rfl⟩
    have dr34 : ys34 = ys.drop (numR 0 0 ys).2.2 := EyeOk.next oke ok34
    refine l_nil ?_
    refine q_conv (fun w S => S.perm p5) ?_
    refine q_conv (fun w S => S.perm p5) ?_
    refine q_conv (fun w S => S.perm p2) ?_
    refine q_conv (fun w S => S.perm p5) ?_
    refine q_conv (fun w S => S.perm p5) ?_
    refine q_conv (fun w S => S.perm p5) ?_
    refine h_next ?_
    refine h_one 5 rfl (by kernel_rfl) ?_
    refine l_f3 ?_
    refine o_call rfl cal30 rfl (num_ ok34) ?_
    rintro _ _ ⟨ys36, ay36, cy36, ok36, rfl, rfl⟩
    have dr36 : ys36 = ys34.drop (numR 0 0 ys34).2.2 := EyeOk.next ok34 ok36
    refine l_nil ?_
    refine q_conv (fun w S => S.perm p5) ?_
    refine q_conv (fun w S => S.perm p5) ?_
    refine q_conv (fun w S => S.perm p2) ?_
    refine q_conv (fun w S => S.perm p5) ?_
    refine q_conv (fun w S => S.perm p5) ?_
    refine q_conv (fun w S => S.perm p5) ?_
    refine h_next ?_
    refine h_one 7 rfl (by kernel_rfl) ?_
    refine l_f3 ?_
    refine o_call rfl cal31 rfl (text_ ok36) ?_
    rintro _ _ ⟨ys38, ay38, cy38, ok38, rfl, rfl⟩
    have dr38 : ys38 = ys36.drop (textR ys36).2.2 := EyeOk.next ok36 ok38
    refine l_nil ?_
    refine q_conv (fun w S => S.perm p5) ?_
    refine q_conv (fun w S => S.perm p5) ?_
    refine q_conv (fun w S => S.perm p2) ?_
    refine q_conv (fun w S => S.perm p5) ?_
    refine q_conv (fun w S => S.perm p5) ?_
    refine q_conv (fun w S => S.perm p5) ?_
    refine h_next ?_
    refine h_take 8 rfl rfl (by kernel_rfl) (by kernel_rfl) (by kernel_rfl) (fun L0 => v_build rfl sp48 ti48 rfl ((fill_cons (cells' := [.int .i64 ((min (numR 0 0 ys).1 2147483647 : Nat) : Int), .int .u64 0, .string ByteArray.empty]) rfl rfl rfl rfl (fill_cons (cells' := [.int .i64 ((min (numR 0 0 ys).1 2147483647 : Nat) : Int), .int .u64 ((numR 0 0 ys34).1 : Int), .string ByteArray.empty]) rfl rfl rfl rfl (fill_cons (cells' := [.int .i64 ((min (numR 0 0 ys).1 2147483647 : Nat) : Int), .int .u64 ((numR 0 0 ys34).1 : Int), .string (bts (textR ys36).1)]) rfl rfl rfl rfl fill_nil))))) ?_
    refine h_one 9 rfl (by kernel_rfl) ?_
    refine o_lit e_Vote_ok rfl Try.underlying24 rfl rfl rfl (lit_ok rfl) [⟨((min (numR 0 0 ys).1 2147483647 : Nat) : Int), ((numR 0 0 ys34).1 : Int), bts (textR ys36).1⟩] rfl rfl fun a40 => ?_
    refine l_nil ?_
    refine q_conv (fun w S => S.perm p6) ?_
    refine q_conv (fun w S => S.perm p6) ?_
    refine q_conv (fun w S => S.perm p6) ?_
    refine q_conv (fun w S => S.perm p3) ?_
    refine q_conv (fun w S => S.perm p6) ?_
    refine q_conv (fun w S => S.perm p6) ?_
    refine q_conv (fun w S => S.perm p6) ?_
    refine h_next ?_
    refine h_one 10 rfl (by kernel_rfl) ?_
    refine l_f5 ?_
    refine o_append e_Vote_ok rfl rfl rfl Try.underlying24 (rds_own e_Vote_ok 4 rfl) (by have := hV.len; show (_ + _) * _ ≤ _; simp only [List.length_cons, List.length_nil]; omega) (by have := hV.len; simp only [List.length_cons, List.length_nil]; omega) fun a41 c41 => ?_
    refine l_f4 ?_
    refine l_drop ?_
    refine l_nil ?_
    refine q_conv (fun w S => S.perm p5) ?_
    refine q_conv (fun w S => S.perm p5) ?_
    refine q_conv (fun w S => S.perm p2) ?_
    refine q_conv (fun w S => S.perm p5) ?_
    refine q_conv (fun w S => S.perm p5) ?_
    refine q_conv (fun w S => S.perm p5) ?_
    refine h_next ?_
    refine h_take 11 rfl rfl (by kernel_rfl) (by kernel_rfl) (by kernel_rfl) (fun L0 => v_fieldAddr (q := ⟨b5, 7, none⟩) rfl rfl Try.underlying26 rfl ti24 rfl) ?_
    refine h_one 12 rfl (by kernel_rfl) ?_
    refine l_f5 ?_
    refine o_store1 rfl rfl rfl ti24 rfl rfl ?_
    refine l_nil ?_
    refine q_conv (fun w S => S.perm p5) ?_
    refine q_conv (fun w S => S.perm p5) ?_
    refine q_conv (fun w S => S.perm p2) ?_
    refine q_conv (fun w S => S.perm p5) ?_
    refine q_conv (fun w S => S.perm p5) ?_
    refine q_conv (fun w S => S.perm p5) ?_
    refine h_next ?_
    refine h_done (by kernel_rfl) ?_
    refine q_block ?_
    refine q_then ?_
    refine c_region ?_
    refine o_bin rfl rfl rfl (b_add (wrap_i64 (by omega) (by omega))) ?_
    refine o_move rfl rfl ?_
    refine l_nil ?_
    refine q_conv (fun w S => S.perm p2) ?_
    refine q_conv (fun w S => S.perm p2) ?_
    refine q_conv (fun w S => S.perm p3) ?_
    refine q_conv (fun w S => S.perm p4) ?_
    refine q_conv (fun w S => S.perm p4) ?_
    refine q_conv (fun w S => S.perm p5) ?_
    exact q_round (i + 1, vs ++ [⟨((min (numR 0 0 ys).1 2147483647 : Nat) : Int), ((numR 0 0 ys34).1 : Int), bts (textR ys36).1⟩], a41, c41, ys38, ay38, cy38, _) (by exact ⟨by omega, ok38, hV.on (by omega) dr34 dr36 dr38⟩) (by (try dsimp only); omega) ⟨(by first | rfl | exact vint (by omega)), (by first | rfl | exact vint (by omega)), (by first | rfl | exact vint (by omega)), (by first | rfl | exact vint (by omega)), (by first | rfl | exact vint (by omega)), (by first | rfl | exact vint (by omega)), trivial⟩ (fun w S => S)
   · -- 3 comes first
    refine l_f3 ?_
    refine o_call rfl cal29 rfl (small_ oke) ?_
    rintro _ _ ⟨ys34, ay34, cy34, ok34, rfl, rfl⟩
    have dr34 : ys34 = ys.drop (numR 0 0 ys).2.2 := EyeOk.next oke ok34
    refine l_nil ?_
    refine q_conv (fun w S => S.perm p5) ?_
    refine q_conv (fun w S => S.perm p5) ?_
    refine q_conv (fun w S => S.perm p2) ?_
    refine q_conv (fun w S => S.perm p5) ?_
    refine q_conv (fun w S => S.perm p5) ?_
    refine q_conv (fun w S => S.perm p5) ?_
    refine h_next ?_
    refine h_many (is := [1, 5]) (by kernel_rfl) (by decide) (forall_cons ⟨_, rfl, ?_⟩ (forall_cons ⟨_, rfl, ?_⟩ forall_nil))
    · -- 1 comes first
     refine o_load1 rfl rfl Try.underlying24 rfl (rd_mem 5 rfl rfl) ?_
     refine l_nil ?_
     refine h_next ?_
     refine h_one 5 rfl (by kernel_rfl) ?_
     refine l_f3 ?_
     refine o_call rfl cal30 rfl (num_ ok34) ?_
     rintro _ _ ⟨ys36, ay36, cy36, ok36, rfl, rfl⟩
     have dr36 : ys36 = ys34.drop (numR 0 0 ys34).2.2 := EyeOk.next ok34 ok36
     refine l_nil ?_
     refine q_conv (fun w S => S.perm p5) ?_
     refine q_conv (fun w S => S.perm p5) ?_
     refine q_conv (fun w S => S.perm p2) ?_
     refine q_conv (fun w S => S.perm p5) ?_
     refine q_conv (fun w S => S.perm p5) ?_
     refine q_conv (fun w S => S.perm p5) ?_
     refine h_next ?_
     refine h_one 7 rfl (by kernel_rfl) ?_
     refine l_f3 ?_
     refine o_call rfl cal31 rfl (text_ ok36) ?_
     rintro _ _ ⟨ys38, ay38, cy38, ok38, rfl, rfl⟩
     have dr38 : ys38 = ys36.drop (textR ys36).2.2 := EyeOk.next ok36 ok38
     refine l_nil ?_
     refine q_conv (fun w S => S.perm p5) ?_
     refine q_conv (fun w S => S.perm p5) ?_
     refine q_conv (fun w S => S.perm p2) ?_
     refine q_conv (fun w S => S.perm p5) ?_
     refine q_conv (fun w S => S.perm p5) ?_
     refine q_conv (fun w S => S.perm p5) ?_
     refine h_next ?_
     refine h_take 8 rfl rfl (by kernel_rfl) (by kernel_rfl) (by kernel_rfl) (fun L0 => v_build rfl sp48 ti48 rfl ((fill_cons (cells' := [.int .i64 ((min (numR 0 0 ys).1 2147483647 : Nat) : Int), .int .u64 0, .string ByteArray.empty]) rfl rfl rfl rfl (fill_cons (cells' := [.int .i64 ((min (numR 0 0 ys).1 2147483647 : Nat) : Int), .int .u64 ((numR 0 0 ys34).1 : Int), .string ByteArray.empty]) rfl rfl rfl rfl (fill_cons (cells' := [.int .i64 ((min (numR 0 0 ys).1 2147483647 : Nat) : Int), .int .u64 ((numR 0 0 ys34).1 : Int), .string (bts (textR ys36).1)]) rfl rfl rfl rfl fill_nil))))) ?_
     refine h_one 9 rfl (by kernel_rfl) ?_
     refine o_lit e_Vote_ok rfl Try.underlying24 rfl rfl rfl (lit_ok rfl) [⟨((min (numR 0 0 ys).1 2147483647 : Nat) : Int), ((numR 0 0 ys34).1 : Int), bts (textR ys36).1⟩] rfl rfl fun a40 => ?_
     refine l_nil ?_
     refine q_conv (fun w S => S.perm p6) ?_
     refine q_conv (fun w S => S.perm p6) ?_
     refine q_conv (fun w S => S.perm p6) ?_
     refine q_conv (fun w S => S.perm p3) ?_
     refine q_conv (fun w S => S.perm p6) ?_
     refine q_conv (fun w S => S.perm p6) ?_
     refine q_conv (fun w S => S.perm p6) ?_
     refine h_next ?_
     refine h_one 10 rfl (by kernel_rfl) ?_
     refine l_f5 ?_
     refine o_append e_Vote_ok rfl rfl rfl Try.underlying24 (rds_own e_Vote_ok 4 rfl) (by have := hV.len; show (_ + _) * _ ≤ _; simp only [List.length_cons, List.length_nil]; omega) (by have := hV.len; simp only [List.length_cons, List.length_nil]; omega) fun a41 c41 => ?_
     refine l_f4 ?_
     refine l_drop ?_
     refine l_nil ?_
     refine q_conv (fun w S => S.perm p5) ?_
     refine q_conv (fun w S => S.perm p5) ?_
     refine q_conv (fun w S => S.perm p2) ?_
     refine q_conv (fun w S => S.perm p5) ?_
     refine q_conv (fun w S => S.perm p5) ?_
     refine q_conv (fun w S => S.perm p5) ?_
     refine h_next ?_
     refine h_take 11 rfl rfl (by kernel_rfl) (by kernel_rfl) (by kernel_rfl) (fun L0 => v_fieldAddr (q := ⟨b5, 7, none⟩) rfl rfl Try.underlying26 rfl ti24 rfl) ?_
     refine h_one 12 rfl (by kernel_rfl) ?_
     refine l_f5 ?_
     refine o_store1 rfl rfl rfl ti24 rfl rfl ?_
     refine l_nil ?_
     refine q_conv (fun w S => S.perm p5) ?_
     refine q_conv (fun w S => S.perm p5) ?_
     refine q_conv (fun w S => S.perm p2) ?_
     refine q_conv (fun w S => S.perm p5) ?_
     refine q_conv (fun w S => S.perm p5) ?_
     refine q_conv (fun w S => S.perm p5) ?_
     refine h_next ?_
     refine h_done (by kernel_rfl) ?_
     refine q_block ?_
     refine q_then ?_
     refine c_region ?_
     refine o_bin rfl rfl rfl (b_add (wrap_i64 (by omega) (by omega))) ?_
     refine o_move rfl rfl ?_
     refine l_nil ?_
     refine q_conv (fun w S => S.perm p2) ?_
     refine q_conv (fun w S => S.perm p2) ?_
     refine q_conv (fun w S => S.perm p3) ?_
     refine q_conv (fun w S => S.perm p4) ?_
     refine q_conv (fun w S => S.perm p4) ?_
     refine q_conv (fun w S => S.perm p5) ?_
     exact q_round (i + 1, vs ++ [⟨((min (numR 0 0 ys).1 2147483647 : Nat) : Int), ((numR 0 0 ys34).1 : Int), bts (textR ys36).1⟩], a41, c41, ys38, ay38, cy38, _) (by exact ⟨by omega, ok38, hV.on (by omega) dr34 dr36 dr38⟩) (by (try dsimp only); omega) ⟨(by first | rfl | exact vint (by omega)), (by first | rfl | exact vint (by omega)), (by first | rfl | exact vint (by omega)), (by first | rfl | exact vint (by omega)), (by first | rfl | exact vint (by omega)), (by first | rfl | exact vint (by omega)), trivial⟩ (fun w S => S)
    · -- 5 comes first
     refine l_f3 ?_
     refine o_call rfl cal30 rfl (num_ ok34) ?_
     rintro _ _ ⟨ys36, ay36, cy36, ok36, rfl, rfl⟩
     have dr36 : ys36 = ys34.drop (numR 0 0 ys34).2.2 := EyeOk.next ok34 ok36
     refine l_nil ?_
     refine q_conv (fun w S => S.perm p5) ?_
     refine q_conv (fun w S => S.perm p5) ?_
     refine q_conv (fun w S => S.perm p2) ?_
     refine q_conv (fun w S => S.perm p5) ?_
     refine q_conv (fun w S => S.perm p5) ?_
     refine q_conv (fun w S => S.perm p5) ?_
     refine h_next ?_
     refine h_many (is := [1, 7]) (by kernel_rfl) (by decide) (forall_cons ⟨_, rfl, ?_⟩ (forall_cons ⟨_, rfl, ?_⟩ forall_nil))
     · -- 1 comes first
      refine o_load1 rfl rfl Try.underlying24 rfl (rd_mem 5 rfl rfl) ?_
      refine l_nil ?_
      refine h_next ?_
      refine h_one 7 rfl (by kernel_rfl) ?_
      refine l_f3 ?_
      refine o_call rfl cal31 rfl (text_ ok36) ?_
      rintro _ _ ⟨ys38, ay38, cy38, ok38, rfl, rfl⟩
      have dr38 : ys38 = ys36.drop (textR ys36).2.2 := EyeOk.next ok36 ok38
      refine l_nil ?_
      refine q_conv (fun w S => S.perm p5) ?_
      refine q_conv (fun w S => S.perm p5) ?_
      refine q_conv (fun w S => S.perm p2) ?_
      refine q_conv (fun w S => S.perm p5) ?_
      refine q_conv (fun w S => S.perm p5) ?_
      refine q_conv (fun w S => S.perm p5) ?_
      refine h_next ?_
      refine h_take 8 rfl rfl (by kernel_rfl) (by kernel_rfl) (by kernel_rfl) (fun L0 => v_build rfl sp48 ti48 rfl ((fill_cons (cells' := [.int .i64 ((min (numR 0 0 ys).1 2147483647 : Nat) : Int), .int .u64 0, .string ByteArray.empty]) rfl rfl rfl rfl (fill_cons (cells' := [.int .i64 ((min (numR 0 0 ys).1 2147483647 : Nat) : Int), .int .u64 ((numR 0 0 ys34).1 : Int), .string ByteArray.empty]) rfl rfl rfl rfl (fill_cons (cells' := [.int .i64 ((min (numR 0 0 ys).1 2147483647 : Nat) : Int), .int .u64 ((numR 0 0 ys34).1 : Int), .string (bts (textR ys36).1)]) rfl rfl rfl rfl fill_nil))))) ?_
      refine h_one 9 rfl (by kernel_rfl) ?_
      refine o_lit e_Vote_ok rfl Try.underlying24 rfl rfl rfl (lit_ok rfl) [⟨((min (numR 0 0 ys).1 2147483647 : Nat) : Int), ((numR 0 0 ys34).1 : Int), bts (textR ys36).1⟩] rfl rfl fun a40 => ?_
      refine l_nil ?_
      refine q_conv (fun w S => S.perm p6) ?_
      refine q_conv (fun w S => S.perm p6) ?_
      refine q_conv (fun w S => S.perm p6) ?_
      refine q_conv (fun w S => S.perm p3) ?_
      refine q_conv (fun w S => S.perm p6) ?_
      refine q_conv (fun w S => S.perm p6) ?_
      refine q_conv (fun w S => S.perm p6) ?_
      refine h_next ?_
      refine h_one 10 rfl (by kernel_rfl) ?_
      refine l_f5 ?_
      refine o_append e_Vote_ok rfl rfl rfl Try.underlying24 (rds_own e_Vote_ok 4 rfl) (by have := hV.len; show (_ + _) * _ ≤ _; simp only [List.length_cons, List.length_nil]; omega) (by have := hV.len; simp only [List.length_cons, List.length_nil]; omega) fun a41 c41 => ?_
      refine l_f4 ?_
      refine l_drop ?_
      refine l_nil ?_
      refine q_conv (fun w S => S.perm p5) ?_
      refine q_conv (fun w S => S.perm p5) ?_
      refine q_conv (fun w S => S.perm p2) ?_
      refine q_conv (fun w S => S.perm p5) ?_
      refine q_conv (fun w S => S.perm p5) ?_
      refine q_conv (fun w S => S.perm p5) ?_
      refine h_next ?_
      refine h_take 11 rfl rfl (by kernel_rfl) (by kernel_rfl) (by kernel_rfl) (fun L0 => v_fieldAddr (q := ⟨b5, 7, none⟩) rfl rfl Try.underlying26 rfl ti24 rfl) ?_
      refine h_one 12 rfl (by kernel_rfl) ?_
      refine l_f5 ?_
      refine o_store1 rfl rfl rfl ti24 rfl rfl ?_
      refine l_nil ?_
      refine q_conv (fun w S => S.perm p5) ?_
      refine q_conv (fun w S => S.perm p5) ?_
      refine q_conv (fun w S => S.perm p2) ?_
      refine q_conv (fun w S => S.perm p5) ?_
      refine q_conv (fun w S => S.perm p5) ?_
      refine q_conv (fun w S => S.perm p5) ?_
      refine h_next ?_
      refine h_done (by kernel_rfl) ?_
      refine q_block ?_
      refine q_then ?_
      refine c_region ?_
      refine o_bin rfl rfl rfl (b_add (wrap_i64 (by omega) (by omega))) ?_
      refine o_move rfl rfl ?_
      refine l_nil ?_
      refine q_conv (fun w S => S.perm p2) ?_
      refine q_conv (fun w S => S.perm p2) ?_
      refine q_conv (fun w S => S.perm p3) ?_
      refine q_conv (fun w S => S.perm p4) ?_
      refine q_conv (fun w S => S.perm p4) ?_
      refine q_conv (fun w S => S.perm p5) ?_
      exact q_round (i + 1, vs ++ [⟨((min (numR 0 0 ys).1 2147483647 : Nat) : Int), ((numR 0 0 ys34).1 : Int), bts (textR ys36).1⟩], a41, c41, ys38, ay38, cy38, _) (by exact ⟨by omega, ok38, hV.on (by omega) dr34 dr36 dr38⟩) (by (try dsimp only); omega) ⟨(by first | rfl | exact vint (by omega)), (by first | rfl | exact vint (by omega)), (by first | rfl | exact vint (by omega)), (by first | rfl | exact vint (by omega)), (by first | rfl | exact vint (by omega)), (by first | rfl | exact vint (by omega)), trivial⟩ (fun w S => S)
     · -- 7 comes first
      refine l_f3 ?_
      refine o_call rfl cal31 rfl (text_ ok36) ?_
      rintro _ _ ⟨ys38, ay38, cy38, ok38, rfl, rfl⟩
      have dr38 : ys38 = ys36.drop (textR ys36).2.2 := EyeOk.next ok36 ok38
      refine l_nil ?_
      refine q_conv (fun w S => S.perm p5) ?_
      refine q_conv (fun w S => S.perm p5) ?_
      refine q_conv (fun w S => S.perm p2) ?_
      refine q_conv (fun w S => S.perm p5) ?_
      refine q_conv (fun w S => S.perm p5) ?_
      refine q_conv (fun w S => S.perm p5) ?_
      refine h_next ?_
      refine h_take 8 rfl rfl (by kernel_rfl) (by kernel_rfl) (by kernel_rfl) (fun L0 => v_build rfl sp48 ti48 rfl ((fill_cons (cells' := [.int .i64 ((min (numR 0 0 ys).1 2147483647 : Nat) : Int), .int .u64 0, .string ByteArray.empty]) rfl rfl rfl rfl (fill_cons (cells' := [.int .i64 ((min (numR 0 0 ys).1 2147483647 : Nat) : Int), .int .u64 ((numR 0 0 ys34).1 : Int), .string ByteArray.empty]) rfl rfl rfl rfl (fill_cons (cells' := [.int .i64 ((min (numR 0 0 ys).1 2147483647 : Nat) : Int), .int .u64 ((numR 0 0 ys34).1 : Int), .string (bts (textR ys36).1)]) rfl rfl rfl rfl fill_nil))))) ?_
      refine h_many (is := [1, 9]) (by kernel_rfl) (by decide) (forall_cons ⟨_, rfl, ?_⟩ (forall_cons ⟨_, rfl, ?_⟩ forall_nil))
      · -- 1 comes first
       refine o_load1 rfl rfl Try.underlying24 rfl (rd_mem 5 rfl rfl) ?_
       refine l_nil ?_
       refine h_next ?_
       refine h_one 9 rfl (by kernel_rfl) ?_
       refine o_lit e_Vote_ok rfl Try.underlying24 rfl rfl rfl (lit_ok rfl) [⟨((min (numR 0 0 ys).1 2147483647 : Nat) : Int), ((numR 0 0 ys34).1 : Int), bts (textR ys36).1⟩] rfl rfl fun a40 => ?_
       refine l_nil ?_
       refine q_conv (fun w S => S.perm p6) ?_
       refine q_conv (fun w S => S.perm p6) ?_
       refine q_conv (fun w S => S.perm p6) ?_
       refine q_conv (fun w S => S.perm p3) ?_
       refine q_conv (fun w S => S.perm p6) ?_
       refine q_conv (fun w S => S.perm p6) ?_
       refine q_conv (fun w S => S.perm p6) ?_
       refine h_next ?_
       refine h_one 10 rfl (by kernel_rfl) ?_
       refine l_f5 ?_
       refine o_append e_Vote_ok rfl rfl rfl Try.underlying24 (rds_own e_Vote_ok 4 rfl) (by have := hV.len; show (_ + _) * _ ≤ _; simp only [List.length_cons, List.length_nil]; omega) (by have := hV.len; simp only [List.length_cons, List.length_nil]; omega) fun a41 c41 => ?_
       refine l_f4 ?_
       refine l_drop ?_
       refine l_nil ?_
       refine q_conv (fun w S => S.perm p5) ?_
       refine q_conv (fun w S => S.perm p5) ?_
       refine q_conv (fun w S => S.perm p2) ?_
       refine q_conv (fun w S => S.perm p5) ?_
       refine q_conv (fun w S => S.perm p5) ?_
       refine q_conv (fun w S => S.perm p5) ?_
       refine h_next ?_
       refine h_take 11 rfl rfl (by kernel_rfl) (by kernel_rfl) (by kernel_rfl) (fun L0 => v_fieldAddr (q := ⟨b5, 7, none⟩) rfl rfl Try.underlying26 rfl ti24 rfl) ?_
       refine h_one 12 rfl (by kernel_rfl) ?_
       refine l_f5 ?_
       refine o_store1 rfl rfl rfl ti24 rfl rfl ?_
       refine l_nil ?_
       refine q_conv (fun w S => S.perm p5) ?_
       refine q_conv (fun w S => S.perm p5) ?_
       refine q_conv (fun w S => S.perm p2) ?_
       refine q_conv (fun w S => S.perm p5) ?_
       refine q_conv (fun w S => S.perm p5) ?_
       refine q_conv (fun w S => S.perm p5) ?_
       refine h_next ?_
       refine h_done (by kernel_rfl) ?_
       refine q_block ?_
       refine q_then ?_
       refine c_region ?_
       refine o_bin rfl rfl rfl (b_add (wrap_i64 (by omega) (by omega))) ?_
       refine o_move rfl rfl ?_
       refine l_nil ?_
       refine q_conv (fun w S => S.perm p2) ?_
       refine q_conv (fun w S => S.perm p2) ?_
       refine q_conv (fun w S => S.perm p3) ?_
       refine q_conv (fun w S => S.perm p4) ?_
       refine q_conv (fun w S => S.perm p4) ?_
       refine q_conv (fun w S => S.perm p5) ?_
       exact q_round (i + 1, vs ++ [⟨((min (numR 0 0 ys).1 2147483647 : Nat) : Int), ((numR 0 0 ys34).1 : Int), bts (textR ys36).1⟩], a41, c41, ys38, ay38, cy38, _) (by exact ⟨by omega, ok38, hV.on (by omega) dr34 dr36 dr38⟩) (by (try dsimp only); omega) ⟨(by first | rfl | exact vint (by omega)), (by first | rfl | exact vint (by omega)), (by first | rfl | exact vint (by omega)), (by first | rfl | exact vint (by omega)), (by first | rfl | exact vint (by omega)), (by first | rfl | exact vint (by omega)), trivial⟩ (fun w S => S)
      · -- 9 comes first
       refine o_lit e_Vote_ok rfl Try.underlying24 rfl rfl rfl (lit_ok rfl) [⟨((min (numR 0 0 ys).1 2147483647 : Nat) : Int), ((numR 0 0 ys34).1 : Int), bts (textR ys36).1⟩] rfl rfl fun a40 => ?_
       refine l_nil ?_
       refine q_conv (fun w S => S.perm p6) ?_
       refine q_conv (fun w S => S.perm p6) ?_
       refine q_conv (fun w S => S.perm p6) ?_
       refine q_conv (fun w S => S.perm p3) ?_
       refine q_conv (fun w S => S.perm p6) ?_
       refine q_conv (fun w S => S.perm p6) ?_
       refine q_conv (fun w S => S.perm p6) ?_
       refine h_next ?_
       refine h_one 1 rfl (by kernel_rfl) ?_
       refine o_load1 rfl rfl Try.underlying24 rfl (rd_mem 6 rfl rfl) ?_
       refine l_nil ?_
       refine h_next ?_
       refine h_one 10 rfl (by kernel_rfl) ?_
       refine l_f5 ?_
       refine o_append e_Vote_ok rfl rfl rfl Try.underlying24 (rds_own e_Vote_ok 4 rfl) (by have := hV.len; show (_ + _) * _ ≤ _; simp only [List.length_cons, List.length_nil]; omega) (by have := hV.len; simp only [List.length_cons, List.length_nil]; omega) fun a41 c41 => ?_
       refine l_f4 ?_
       refine l_drop ?_
       refine l_nil ?_
       refine q_conv (fun w S => S.perm p5) ?_
       refine q_conv (fun w S => S.perm p5) ?_
       refine q_conv (fun w S => S.perm p2) ?_
       refine q_conv (fun w S => S.perm p5) ?_
       refine q_conv (fun w S => S.perm p5) ?_
       refine q_conv (fun w S => S.perm p5) ?_
       refine h_next ?_
       refine h_take 11 rfl rfl (by kernel_rfl) (by kernel_rfl) (by kernel_rfl) (fun L0 => v_fieldAddr (q := ⟨b5, 7, none⟩) rfl rfl Try.underlying26 rfl ti24 rfl) ?_
       refine h_one 12 rfl (by kernel_rfl) ?_
       refine l_f5 ?_
       refine o_store1 rfl rfl rfl ti24 rfl rfl ?_
       refine l_nil ?_
       refine q_conv (fun w S => S.perm p5) ?_
       refine q_conv (fun w S => S.perm p5) ?_
       refine q_conv (fun w S => S.perm p2) ?_
       refine q_conv (fun w S => S.perm p5) ?_
       refine q_conv (fun w S => S.perm p5) ?_
       refine q_conv (fun w S => S.perm p5) ?_
       refine h_next ?_
       refine h_done (by kernel_rfl) ?_
       refine q_block ?_
       refine q_then ?_
       refine c_region ?_
       refine o_bin rfl rfl rfl (b_add (wrap_i64 (by omega) (by omega))) ?_
       refine o_move rfl rfl ?_
       refine l_nil ?_
       refine q_conv (fun w S => S.perm p2) ?_
       refine q_conv (fun w S => S.perm p2) ?_
       refine q_conv (fun w S => S.perm p3) ?_
       refine q_conv (fun w S => S.perm p4) ?_
       refine q_conv (fun w S => S.perm p4) ?_
       refine q_conv (fun w S => S.perm p5) ?_
       exact q_round (i + 1, vs ++ [⟨((min (numR 0 0 ys).1 2147483647 : Nat) : Int), ((numR 0 0 ys34).1 : Int), bts (textR ys36).1⟩], a41, c41, ys38, ay38, cy38, _) (by exact ⟨by omega, ok38, hV.on (by omega) dr34 dr36 dr38⟩) (by (try dsimp only); omega) ⟨(by first | rfl | exact vint (by omega)), (by first | rfl | exact vint (by omega)), (by first | rfl | exact vint (by omega)), (by first | rfl | exact vint (by omega)), (by first | rfl | exact vint (by omega)), (by first | rfl | exact vint (by omega)), trivial⟩ (fun w S => S)
  · -- h1F
   have h1b := h1
   try simp only [decide_eq_false_iff_not, Int.not_lt, Int.not_le] at h1
   refine c_exit ?_
   refine q_pass_exit ?_
   refine q_pass_exit ?_
   refine q_hit ?_
   refine q_then ?_
   refine c_seq ?_
   refine c_seq ?_
   have hwf : Wf (⟨((min (numR 0 0 bs).1 2147483647 : Nat) : Int), ((min (numR 0 0 ys12).1 2147483647 : Nat) : Int), ((min (numR 0 0 ys14).1 2147483647 : Nat) : Int), ((min (numR 0 0 ys16).1 2147483647 : Nat) : Int), ((min (numR 0 0 ys18).1 2147483647 : Nat) : Int), ((numR 0 0 ys20).1 : Int), bts (textR ys22).1, ⟨av, vs, cv⟩⟩ : Msg) := ⟨by have := numR_lt ys20 0 0 (by omega) (by omega); exact ⟨by dsimp only; omega, by dsimp only; omega⟩, hV.wf⟩
   have hno : ∀ m, Good m bs → msgN (⟨((min (numR 0 0 bs).1 2147483647 : Nat) : Int), ((min (numR 0 0 ys12).1 2147483647 : Nat) : Int), ((min (numR 0 0 ys14).1 2147483647 : Nat) : Int), ((min (numR 0 0 ys16).1 2147483647 : Nat) : Int), ((min (numR 0 0 ys18).1 2147483647 : Nat) : Int), ((numR 0 0 ys20).1 : Int), bts (textR ys22).1, ⟨av, vs, cv⟩⟩ : Msg) = 0 ∧ wrB (⟨((min (numR 0 0 bs).1 2147483647 : Nat) : Int), ((min (numR 0 0 ys12).1 2147483647 : Nat) : Int), ((min (numR 0 0 ys14).1 2147483647 : Nat) : Int), ((min (numR 0 0 ys16).1 2147483647 : Nat) : Int), ((min (numR 0 0 ys18).1 2147483647 : Nat) : Int), ((numR 0 0 ys20).1 : Int), bts (textR ys22).1, ⟨av, vs, cv⟩⟩ : Msg) = bs := fun m g => by obtain ⟨⟨e1, e2, e3, e4, e5, e6, e7⟩, _, _⟩ := hR m g; obtain ⟨k1, k2, _⟩ := hV.is m g; exact read_no (m := m) ⟨e1.symm, e2.symm, e3.symm, e4.symm, e5.symm, e6.symm, e7.symm, by show _ = vs; rw [k2, List.take_of_length_le (by omega)]⟩ g
   refine c_region ?_
   refine o_loadn (vs := [_, _, _, _, _, _, _, _]) rfl rfl Try.underlying26 rfl ti26 (rdn_lit 3 rfl rfl) ?_
   refine o_call rfl cal10 rfl (write_ (m := (⟨((min (numR 0 0 bs).1 2147483647 : Nat) : Int), ((min (numR 0 0 ys12).1 2147483647 : Nat) : Int), ((min (numR 0 0 ys14).1 2147483647 : Nat) : Int), ((min (numR 0 0 ys16).1 2147483647 : Nat) : Int), ((min (numR 0 0 ys18).1 2147483647 : Nat) : Int), ((numR 0 0 ys20).1 : Int), bts (textR ys22).1, ⟨av, vs, cv⟩⟩ : Msg)) (rds_own e_Vote_ok 2 rfl) (by have := hV.len; show vs.length ≤ _; omega) hwf) ?_
   rintro _ _ ⟨out46, a46, c46, hout46, rfl, rfl⟩
   refine o_move rfl rfl ?_
   refine o_extract rfl rfl rfl ?_
   refine o_extract rfl rfl rfl ?_
   refine o_assign rfl rfl ?_
   refine o_assign rfl rfl ?_
   refine l_nil ?_
   refine q_then ?_
   refine c_seq ?_
   refine c_region ?_
   refine o_move rfl rfl ?_
   refine o_bin rfl rfl rfl b_neq ?_
   refine o_move rfl rfl ?_
   refine l_split (t := 51) rfl (fun h2 => ?_) (fun h2 => ?_)
   · -- h2T
    have h2b := h2
    try simp only [Bool.not_eq_true', decide_eq_false_iff_not, Int.not_lt, Int.not_le] at h2
    refine o_no rfl rfl rfl rfl ?_
    refine o_no rfl rfl rfl rfl ?_
    refine o_no rfl rfl rfl rfl ?_
    refine o_no rfl rfl rfl rfl ?_
    refine o_pick_true rfl rfl rfl ?_
    refine l_nil ?_
    refine q_then ?_
    refine c_true rfl ?_
    refine c_seq ?_
    refine c_nilrow e_Vote ?_
    refine c_region ?_
    refine o_build rfl sp26 ti26 rfl rfl ?_
    refine l_f7 ?_
    refine o_storen rfl rfl ti26 rfl rfl rfl rfl ?_
    refine o_assign rfl rfl ?_
    refine l_nil ?_
    refine q_then ?_
    refine c_ret ?_
    refine q_pass_ret ?_
    refine f_retq (.inl rfl) (rs_2 rfl (rs_celln (vs := [.int .i64 0, .int .i64 0, .int .i64 0, .int .i64 0, .int .i64 0, .int .u64 0, .string ByteArray.empty, .slice none 0 0]) rfl Try.underlying26 rfl ti26 (rdn_lit 0 rfl rfl)) (rs_tmp rfl)) (fun w S => ?_)
    replace S := S.tail
    replace S := (S.perm p1).tail
    replace S := (S.perm p1).tail
    replace S := (S.perm p1).tail
    replace S := (S.perm p1).tail
    replace S := (S.perm p1).tail
    replace S := (S.perm p1).tail
    exact ⟨_, ⟨⟨0, 0, 0, 0, 0, 0, ByteArray.empty, ⟨none, [], 0⟩⟩, 31, .inr ⟨rfl, ⟨rfl, rfl, rfl, rfl, rfl, rfl, rfl, rfl⟩, fun m g => by obtain ⟨k1, k2⟩ := hno m g; first | (rw [k1] at h2; exact h2 rfl) | (rw [hout46, k2] at h3; exact h3 rfl) | simp_all⟩, rfl, rfl⟩, (fun w S => S) w S⟩
   · -- h2F
    have h2b := h2
    try simp only [Bool.not_eq_false', decide_eq_true_eq] at h2
    refine o_yes rfl rfl rfl ?_
    refine o_move rfl rfl ?_
    refine o_yes rfl rfl rfl ?_
    refine o_move rfl rfl ?_
    refine o_yes rfl rfl rfl ?_
    refine o_call rfl cal32 rfl (equal8 (rds_own e8_ok 0 rfl) (rds_c (rds_c (rds_c (rds_c (rds_c (rds_c (rds_c hs))))))) (by rw [hout46]; exact wrB_len hwf)) ?_
    rintro _ _ ⟨rfl, rfl⟩
    refine o_yes rfl rfl rfl ?_
    refine o_not rfl rfl ?_
    refine o_pick_false rfl rfl rfl ?_
    refine l_nil ?_
    refine q_then ?_
    refine c_cond rfl (fun h3 => ?_) (fun h3 => ?_)
    · -- h3T
     have h3b := h3
     try simp only [Bool.not_eq_true', decide_eq_false_iff_not, Int.not_lt, Int.not_le] at h3
     refine c_seq ?_
     refine c_nilrow e_Vote ?_
     refine c_region ?_
     refine o_build rfl sp26 ti26 rfl rfl ?_
     refine l_f7 ?_
     refine o_storen rfl rfl ti26 rfl rfl rfl rfl ?_
     refine o_assign rfl rfl ?_
     refine l_nil ?_
     refine q_then ?_
     refine c_ret ?_
     refine q_pass_ret ?_
     refine f_retq (.inl rfl) (rs_2 rfl (rs_celln (vs := [.int .i64 0, .int .i64 0, .int .i64 0, .int .i64 0, .int .i64 0, .int .u64 0, .string ByteArray.empty, .slice none 0 0]) rfl Try.underlying26 rfl ti26 (rdn_lit 0 rfl rfl)) (rs_tmp rfl)) (fun w S => ?_)
     replace S := S.tail
     replace S := (S.perm p1).tail
     replace S := (S.perm p1).tail
     replace S := (S.perm p1).tail
     replace S := (S.perm p1).tail
     replace S := (S.perm p1).tail
     replace S := (S.perm p1).tail
     exact ⟨_, ⟨⟨0, 0, 0, 0, 0, 0, ByteArray.empty, ⟨none, [], 0⟩⟩, 31, .inr ⟨rfl, ⟨rfl, rfl, rfl, rfl, rfl, rfl, rfl, rfl⟩, fun m g => by obtain ⟨k1, k2⟩ := hno m g; first | (rw [k1] at h2; exact h2 rfl) | (rw [hout46, k2] at h3; exact h3 rfl) | simp_all⟩, rfl, rfl⟩, (fun w S => S) w S⟩
    · -- h3F
     have h3b := h3
     try simp only [Bool.not_eq_false', decide_eq_true_eq] at h3
     refine c_skip ?_
     refine q_then ?_
     refine c_seq ?_
     refine c_region ?_
     refine o_loadn (vs := [_, _, _, _, _, _, _, _]) rfl rfl Try.underlying26 rfl ti26 (rdn_lit 4 rfl rfl) ?_
     refine l_f6 ?_
     refine o_storen rfl rfl ti26 rfl rfl rfl rfl ?_
     refine o_assign rfl rfl ?_
     refine l_nil ?_
     refine q_then ?_
     refine c_ret ?_
     refine f_retq (.inl rfl) (rs_2 rfl (rs_celln (vs := [.int .i64 ((min (numR 0 0 bs).1 2147483647 : Nat) : Int), .int .i64 ((min (numR 0 0 ys12).1 2147483647 : Nat) : Int), .int .i64 ((min (numR 0 0 ys14).1 2147483647 : Nat) : Int), .int .i64 ((min (numR 0 0 ys16).1 2147483647 : Nat) : Int), .int .i64 ((min (numR 0 0 ys18).1 2147483647 : Nat) : Int), .int .u64 ((numR 0 0 ys20).1 : Int), .string (bts (textR ys22).1), .slice av (vs).length cv]) rfl Try.underlying26 rfl ti26 (rdn_lit 0 rfl rfl)) (rs_tmp rfl)) (fun w S => ?_)
     replace S := S.tail
     replace S := S.tail
     replace S := S.tail
     replace S := S.tail
     replace S := (S.perm p1).tail
     replace S := (S.perm p1).tail
     exact ⟨_, ⟨(⟨((min (numR 0 0 bs).1 2147483647 : Nat) : Int), ((min (numR 0 0 ys12).1 2147483647 : Nat) : Int), ((min (numR 0 0 ys14).1 2147483647 : Nat) : Int), ((min (numR 0 0 ys16).1 2147483647 : Nat) : Int), ((min (numR 0 0 ys18).1 2147483647 : Nat) : Int), ((numR 0 0 ys20).1 : Int), bts (textR ys22).1, ⟨av, vs, cv⟩⟩ : Msg), 0, .inl ⟨rfl, read_yes hwf (by assumption) (by rw [← hout46]; assumption)⟩, rfl, rfl⟩, (fun w S => S) w S⟩

end Go.Proofs.Ytoigakfglgdjdaa
