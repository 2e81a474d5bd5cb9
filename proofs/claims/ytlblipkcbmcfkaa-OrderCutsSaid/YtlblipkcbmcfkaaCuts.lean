/- Printed by eng2.py out of 09a/spec.py. -/
import Derived.Test.YtlblipkcbmcfkaaSpeaks
import Derived.Test.YtlblipkcbmcfkaaArgs
import Derived.Test.YtlblipkcbmcfkaaRdR
import Derived.Test.YtlblipkcbmcfkaaOSame
import Derived.Test.YtlblipkcbmcfkaaOGreat
import Derived.Test.YtlblipkcbmcfkaaBits
set_option linter.unusedVariables false
set_option linter.unusedSimpArgs false
set_option maxRecDepth 10000
namespace Go.Proofs.Ytlblipkcbmcfkaa
open Go.RowKit Classical
theorem owf_mk {W : World} {o : Order} (h1 : (Lit.int .u64 o.f_Tag_Id_Epoch).wf = true) (h2 : (Lit.int .u64 o.f_Tag_Id_Seq).wf = true) (h3 : ∀ x ∈ o.f_Txn_Ops.xs, G_Op W x) (h4 : ∀ x ∈ o.f_Marks.xs, G_Mark W x) : OWf o where
  ep := by obtain ⟨m, e, _⟩ := wf_u64 h1; omega
  sq := by obtain ⟨m, e, _⟩ := wf_u64 h2; omega
  mc := fun m hm => by obtain ⟨m, e, _⟩ := wf_u64 (h4 m hm).2.2; omega
  op := fun x hx => by have := wf_i64 (h3 x hx).2.2.2; omega
theorem owfO {W : World} {x : Order} (g : G_Order W x) : OWf x := owf_mk g.2.1 g.2.2.1 g.2.2.2.2.2.2.2.1.all g.2.2.2.2.2.2.2.2.2.all
theorem bbeq {p q : Prop} {i : Decidable p} {j : Decidable q} (h : p ↔ q) : (@decide p i == @decide q j) = true := by
  by_cases hp : p
  · rw [decide_eq_true hp, decide_eq_true (h.1 hp)]; rfl
  · rw [decide_eq_false hp, decide_eq_false (fun hq => hp (h.2 hq))]; rfl
theorem cut_no {o : Order} {bs : List UInt8} {k : Nat} (ok : OrdOk o 3) (w : OWf o) (hk : k < (ordB o).length) (h : bs = (ordB o).take k) : ∀ q, ¬ GoodO q bs := fun q g => by
  have h1 : ordB q ++ (ordB o).drop k = ordB o ++ [] := by rw [← g.eq, h, List.take_append_drop, List.append_nil]
  have h2 := (ordB_app g.ok ok g.wf w h1).2
  have h3 := congrArg List.length h2
  simp at h3; omega
theorem more_iff {o q : Order} {ms : List UInt8} {n : Int} (ok : OrdOk o 3) (w : OWf o) (h : RdResO (ordB o ++ ms) q n) : n = 0 ↔ ms.length = 0 := by
  rcases h with ⟨h1, g⟩ | ⟨h1, _, h3⟩
  · refine ⟨fun _ => ?_, fun _ => h1⟩
    have h4 : ordB q ++ [] = ordB o ++ ms := by rw [← g.eq, List.append_nil]
    rw [← (ordB_app g.ok ok g.wf w h4).2]; rfl
  · refine ⟨fun h9 => by omega, fun h9 => ?_⟩
    have h4 := List.eq_nil_of_length_eq_zero h9
    subst h4
    exact absurd ⟨ok, w, by rw [List.append_nil]⟩ (h3 o)
theorem cut_31 {o q : Order} {bs : List UInt8} {n : Int} {k : Nat} (ok : OrdOk o 3) (w : OWf o) (hk : k < (ordB o).length) (h : bs = (ordB o).take k) (hr : RdResO bs q n) : n = 31 := by
  rcases hr with ⟨_, g⟩ | ⟨h1, _⟩
  · exact absurd g (cut_no ok w hk h q)
  · exact h1
theorem rem_n (q n : Nat) (h : 0 < n) : ∃ k : Nat, k < n ∧ Int.tmod (q : Int) (n : Int) = (k : Int) := ⟨q % n, Nat.mod_lt _ h, rfl⟩
set_option maxHeartbeats 2000000 in
theorem cutsL_ {W : World} {F : List Res} {n : Int} {ms : List UInt8} {am : Option Addr} {cm : Nat} {o : Order} (T_o : OrdR W F o) (w_o : OWf o) (hs : SlR W e8 am ms) (hml : ms.length ≤ 9223372036854775807) : CS Try.prog 6 #[.agg #[.int .i64 o.f_Tag_Id_Node, .int .u64 o.f_Tag_Id_Epoch, .int .u64 o.f_Tag_Id_Seq, .int .i64 o.f_Tag_Try, .int .i64 o.f_Txn_Kind, .slice o.f_Txn_Reads.a (o.f_Txn_Reads.xs).length o.f_Txn_Reads.c, .slice o.f_Txn_Writes.a (o.f_Txn_Writes.xs).length o.f_Txn_Writes.c, .slice o.f_Txn_Ops.a (o.f_Txn_Ops.xs).length o.f_Txn_Ops.c, .int .i64 o.f_Txn_To, .slice o.f_Marks.a (o.f_Marks.xs).length o.f_Marks.c], .int .i64 n, .slice am ms.length cm] W (F) (fun r L' => r = .bool true ∧ F = L') := by
 refine f_door (l0 := [(0, .agg #[.int .i64 o.f_Tag_Id_Node, .int .u64 o.f_Tag_Id_Epoch, .int .u64 o.f_Tag_Id_Seq, .int .i64 o.f_Tag_Try, .int .i64 o.f_Txn_Kind, .slice o.f_Txn_Reads.a (o.f_Txn_Reads.xs).length o.f_Txn_Reads.c, .slice o.f_Txn_Writes.a (o.f_Txn_Writes.xs).length o.f_Txn_Writes.c, .slice o.f_Txn_Ops.a (o.f_Txn_Ops.xs).length o.f_Txn_Ops.c, .int .i64 o.f_Txn_To, .slice o.f_Marks.a (o.f_Marks.xs).length o.f_Marks.c]), (1, .int .i64 n), (2, .slice am ms.length cm)]) Try.func6 Try.ntmps6 rfl rfl rfl ?_
 refine c_seq ?_
 refine c_region ?_
 refine o_box rfl rfl fun b3 => ?_
 refine o_assign rfl rfl ?_
 refine l_nil ?_
 refine q_then ?_
 refine c_seq ?_
 refine c_seq ?_
 refine c_region ?_
 refine o_call rfl cal7 rfl (speaks_) ?_
 rintro _ _ ⟨rfl, rfl⟩
 refine o_not rfl rfl ?_
 refine l_nil ?_
 refine q_then ?_
 refine c_false rfl ?_
 refine c_skip ?_
 refine q_then ?_
 refine c_seq ?_
 refine c_seq ?_
 refine c_region ?_
 refine o_loadn (vs := [_, _, _, _, _, _, _, _, _, _]) rfl rfl Try.underlying33 rfl ti33 (rdn_lit 0 rfl rfl) ?_
 refine o_call rfl cal8 rfl (rgreat_ (o := o) (OrdR.c T_o)) ?_
 rintro _ _ ⟨g16, hg16, rfl, rfl⟩
 refine o_move rfl rfl ?_
 refine l_split (t := 17) rfl (fun h1 => ?_) (fun h1 => ?_)
 · -- h1T
  have h1b := h1
  try simp only [decide_eq_true_eq, decide_eq_false_iff_not, Bool.not_eq_eq_eq_not, Bool.not_true, Bool.not_false, Bool.not_eq_true', Bool.not_eq_false', Int.not_lt, Int.not_le, Bool.or_eq_true, Bool.and_eq_true] at h1
  refine o_no rfl rfl rfl rfl ?_
  refine o_no rfl rfl rfl rfl ?_
  refine o_no rfl rfl rfl rfl ?_
  refine o_pick_true rfl rfl rfl ?_
  refine l_nil ?_
  refine q_then ?_
  refine c_true rfl ?_
  refine c_seq ?_
  refine c_region ?_
  refine o_assign rfl rfl ?_
  refine l_nil ?_
  refine q_then ?_
  refine c_ret ?_
  refine q_pass_ret ?_
  refine q_conv (fun w S => S.tail) ?_
  exact f_ret (r_one rfl rfl) (⟨rfl, rfl⟩) (fun w S => S)
 · -- h1F
  have h1b := h1
  try simp only [decide_eq_true_eq, decide_eq_false_iff_not, Bool.not_eq_eq_eq_not, Bool.not_true, Bool.not_false, Bool.not_eq_true', Bool.not_eq_false', Int.not_lt, Int.not_le, Bool.or_eq_true, Bool.and_eq_true] at h1
  refine o_yes rfl rfl rfl ?_
  refine o_move rfl rfl ?_
  refine o_yes rfl rfl rfl ?_
  refine o_len rfl rfl Try.underlying45 ?_
  refine o_yes rfl rfl rfl ?_
  refine o_bin rfl rfl rfl b_gtr ?_
  refine o_pick_false rfl rfl rfl ?_
  refine l_nil ?_
  refine q_then ?_
  refine c_cond rfl (fun h2 => ?_) (fun h2 => ?_)
  · -- h2T
   have h2b := h2
   try simp only [decide_eq_true_eq] at h2
   refine c_seq ?_
   refine c_region ?_
   refine o_assign rfl rfl ?_
   refine l_nil ?_
   refine q_then ?_
   refine c_ret ?_
   refine q_pass_ret ?_
   refine q_conv (fun w S => S.tail) ?_
   exact f_ret (r_one rfl rfl) (⟨rfl, rfl⟩) (fun w S => S)
  · -- h2F
   have h2b := h2
   try simp only [decide_eq_false_iff_not, Int.not_lt, Int.not_le] at h2
   refine c_skip ?_
   refine q_then ?_
   refine c_seq ?_
   refine c_region ?_
   refine o_loadn (vs := [_, _, _, _, _, _, _, _, _, _]) rfl rfl Try.underlying33 rfl ti33 (rdn_lit 0 rfl rfl) ?_
   refine o_call rfl cal18 rfl (oWrite_ (o := o) (OrdR.c T_o) (hg16 (by assumption)) w_o) ?_
   rintro _ _ ⟨out24, a24, c24, hout24, rfl, rfl⟩
   refine o_move rfl rfl ?_
   refine o_extract rfl rfl rfl ?_
   refine o_extract rfl rfl rfl ?_
   refine o_assign rfl rfl ?_
   refine o_assign rfl rfl ?_
   refine l_nil ?_
   refine q_then ?_
   refine c_seq ?_
   refine c_seq ?_
   refine c_region ?_
   refine o_move rfl rfl ?_
   refine o_bin rfl rfl rfl b_neq ?_
   refine l_nil ?_
   refine q_then ?_
   refine c_cond rfl (fun h3 => ?_) (fun h3 => ?_)
   · -- h3T
    have h3b := h3
    try simp only [Bool.not_eq_true', decide_eq_false_iff_not, Int.not_lt, Int.not_le] at h3
    refine c_seq ?_
    refine c_region ?_
    refine o_assign rfl rfl ?_
    refine l_nil ?_
    refine q_then ?_
    refine c_ret ?_
    refine q_pass_ret ?_
    refine q_conv (fun w S => S.tail) ?_
    refine q_conv (fun w S => S.tail) ?_
    exact f_ret (r_one rfl rfl) (⟨rfl, rfl⟩) (fun w S => S)
   · -- h3F
    have h3b := h3
    try simp only [Bool.not_eq_false', decide_eq_true_eq] at h3
    refine c_skip ?_
    refine q_then ?_
    refine c_seq ?_
    have hok : OrdOk o 3 := chkO_0.1 (by first | assumption | simp_all)
    have ho24 : out24 = ordB o := by rw [hout24]; exact if_pos hok
    have hlb := ordB_len hok w_o (hg16 (by assumption))
    have hlp := ordB_pos o
    have hl24 : out24.length = (ordB o).length := by rw [ho24]
    refine c_fact (row_cap 0 rfl) ?_
    intro hcap24
    refine c_region ?_
    refine o_move rfl rfl ?_
    refine o_move rfl rfl ?_
    refine o_bin rfl rfl rfl (b_and rfl) ?_
    obtain ⟨q32, hq32, eq32⟩ := band64 n 65535 (by omega)
    refine l_eq (t := 32) (v' := .int .i64 (q32 : Int)) rfl (by first | exact congrArg _ eq32) ?_
    refine o_move rfl rfl ?_
    refine o_len rfl rfl Try.underlying45 ?_
    refine o_bin rfl rfl rfl (b_rem (by omega) rfl) ?_
    obtain ⟨k, hk, ek⟩ := rem_n q32 out24.length (by omega)
    refine l_eq (t := 35) (v' := .int .i64 (k : Int)) rfl (by exact congrArg _ ek) ?_
    refine o_cut (l' := 0) (h' := k) (m := c24) rfl rfl Try.underlying45 ti5 (.inl ⟨rfl, rfl⟩) (.inr ⟨_, _, rfl, icast rfl (by omega), (by omega)⟩) (.inl ⟨rfl, rfl⟩) ?_
    obtain ⟨ys36, ay36, cut36, hys36, hlys36, eay36⟩ : ∃ ys_ ay_, (∀ {L : List Res}, RdS W L e8 a24 out24 → RdS W L e8 ay_ ys_) ∧ ys_ = sub out24 0 k ∧ ys_.length = k - 0 ∧ cutA a24 c24 0 1 = ay_ := ⟨_, _, fun h => rds_cut e8_ok h _ _ _ (by omega), rfl, sub_len (by omega), rfl⟩
    refine l_eq (t := 36) (v' := .slice ay36 ys36.length (c24 - 0)) rfl (by rw [eay36, hlys36]) ?_
    refine o_call rfl cal21 rfl (oRead_ (cut36 (rds_own e8_ok 0 rfl)) (by (try simp only [List.length_append, List.length_nil]); omega)) ?_
    rintro _ _ ⟨q37, n37, hrd37, L_q37, rfl, rfl⟩
    refine o_move rfl rfl ?_
    refine o_extract rfl rfl rfl ?_
    refine o_extract rfl rfl rfl ?_
    refine o_alloc rfl ti33 fun b9 => ?_
    refine o_storen rfl rfl ti33 rfl rfl rfl rfl ?_
    refine o_assign rfl rfl ?_
    refine l_nil ?_
    refine q_then ?_
    refine c_seq ?_
    refine c_region ?_
    refine o_lit e8_ok rfl Try.underlying45 rfl rfl rfl (lit_ok rfl) ([] : List UInt8) rfl rfl fun a41 => ?_
    refine o_move rfl rfl ?_
    refine o_append e8_ok rfl rfl rfl Try.underlying45 (rds_own e8_ok 3 rfl) (by show (_ + _) * _ ≤ _; (try simp only [List.length_append, List.length_nil]); omega) (by (try simp only [List.length_append, List.length_nil]); omega) fun a43 c43 => ?_
    refine l_f3 ?_
    refine l_drop ?_
    refine o_move rfl rfl ?_
    refine o_append e8_ok rfl rfl rfl Try.underlying45 (rds_old hs) (by show (_ + _) * _ ≤ _; (try simp only [List.length_append, List.length_nil]); omega) (by (try simp only [List.length_append, List.length_nil]); omega) fun a45 c45 => ?_
    refine o_call rfl cal21 rfl (oRead_ (rds_own e8_ok 0 rfl) (by (try simp only [List.length_append, List.length_nil]); omega)) ?_
    rintro _ _ ⟨q46, n46, hrd46, L_q46, rfl, rfl⟩
    refine o_move rfl rfl ?_
    refine o_extract rfl rfl rfl ?_
    refine o_extract rfl rfl rfl ?_
    refine o_alloc rfl ti33 fun b11 => ?_
    refine o_storen rfl rfl ti33 rfl rfl rfl rfl ?_
    refine o_assign rfl rfl ?_
    refine l_nil ?_
    refine q_then ?_
    refine c_seq ?_
    have hrm := more_iff (o := o) hok w_o (q := q46) (n := n46) (ms := ms) (by rw [← ho24]; exact hrd46)
    have hrc := cut_31 (o := o) hok w_o (k := k) (by omega) (by rw [hys36, ← ho24]; exact sub_take _ _) hrd37
    refine c_region ?_
    refine o_move rfl rfl ?_
    refine o_bin rfl rfl rfl b_eql ?_
    refine l_eq (t := 50) (v' := .bool true) rfl (show _ = Value.bool true from by rw [hrc]; rfl) ?_
    refine o_move rfl rfl ?_
    refine o_yes rfl rfl rfl ?_
    refine o_move rfl rfl ?_
    refine o_yes rfl rfl rfl ?_
    refine o_bin rfl rfl rfl b_eql ?_
    refine o_yes rfl rfl rfl ?_
    refine o_move rfl rfl ?_
    refine o_yes rfl rfl rfl ?_
    refine o_len rfl rfl Try.underlying45 ?_
    refine o_yes rfl rfl rfl ?_
    refine o_bin rfl rfl rfl b_eql ?_
    refine o_yes rfl rfl rfl ?_
    refine o_bin rfl rfl rfl (b_beq Try.underlying4 _ _) ?_
    refine l_eq (t := 57) (v' := .bool true) rfl (show _ = Value.bool true from by rw [bbeq (hrm.trans (by omega : ms.length = 0 ↔ (ms.length : Int) = 0))]) ?_
    refine o_pick_true rfl rfl rfl ?_
    refine o_assign rfl rfl ?_
    refine l_nil ?_
    refine q_then ?_
    refine c_ret ?_
    refine q_conv (fun w S => S.tail) ?_
    refine q_conv (fun w S => S.tail) ?_
    refine q_conv (fun w S => S.tail) ?_
    refine q_conv (fun w S => S.tail) ?_
    refine q_conv (fun w S => S.tail) ?_
    refine q_conv (fun w S => S.tail) ?_
    exact f_ret (r_one rfl rfl) (⟨rfl, rfl⟩) (fun w S => S)

end Go.Proofs.Ytlblipkcbmcfkaa
