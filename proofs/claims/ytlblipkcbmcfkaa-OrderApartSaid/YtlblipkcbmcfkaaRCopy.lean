/- Printed by eng2.py out of 09a/spec.py. -/
import Derived.Test.YtlblipkcbmcfkaaGreat
import Derived.Test.YtlblipkcbmcfkaaSame
set_option linter.unusedVariables false
set_option linter.unusedSimpArgs false
set_option maxRecDepth 10000
namespace Go.Proofs.Ytlblipkcbmcfkaa
open Go.RowKit Classical
abbrev qzRCopy1 (t : Txn) : Obj := .cells #[.int .i64 t.f_Kind, .slice t.f_Reads.a (t.f_Reads.xs).length t.f_Reads.c, .slice t.f_Writes.a (t.f_Writes.xs).length t.f_Writes.c, .slice t.f_Ops.a (t.f_Ops.xs).length t.f_Ops.c, .int .i64 t.f_To] 30 (0, 0)
abbrev qzRCopy2 : Obj := .cells #[.int .i64 0, .slice none 0 0, .slice none 0 0, .slice none 0 0, .int .i64 0] 30 (0, 0)
abbrev qzRCopy3 (t : Txn) (a13 : Option Addr) (c13 : Nat) (a17 : Option Addr) (c17 : Nat) : Obj := .cells #[.int .i64 t.f_Kind, .slice a13 (t.f_Reads.xs).length c13, .slice a17 (t.f_Writes.xs).length c17, .slice none 0 0, .int .i64 t.f_To] 30 (0, 0)
theorem copied_on {os xs : List Op} {i : Nat} {x y : Op} (h : SameOps os xs i) (hl : os.length = i) (hx : xs[((i : Int)).toNat]? = some x) (h1 : SameOp y x) : SameOps (os ++ [y]) xs (i + 1) := fun j a b hj ha hb => by
  by_cases hji : j < i
  · exact h j a b hji (by rw [List.getElem?_append_left (by omega)] at ha; exact ha) hb
  · obtain rfl : j = i := by omega
    rw [List.getElem?_append_right (by omega), hl, Nat.sub_self] at ha
    have hx' : xs[j]? = some x := hx
    rw [hx'] at hb
    simp at ha; cases hb; subst ha; exact h1
theorem copy_ {W : World} {F : List Res} {t : Txn} (T_t : TxR W F t) (small : Smalls t) : CS Try.prog 23 #[.agg #[.int .i64 t.f_Kind, .slice t.f_Reads.a (t.f_Reads.xs).length t.f_Reads.c, .slice t.f_Writes.a (t.f_Writes.xs).length t.f_Writes.c, .slice t.f_Ops.a (t.f_Ops.xs).length t.f_Ops.c, .int .i64 t.f_To]] W (F) (fun r L' => ∃ c : Txn, SameT c t ∧ r = .agg (e_Txn.cells c).toArray ∧ L' = txM c :: F) := by
 have hlr := small.r
 have hlw := small.w
 have hlo := small.o
 refine f_door (l0 := [(0, .agg #[.int .i64 t.f_Kind, .slice t.f_Reads.a (t.f_Reads.xs).length t.f_Reads.c, .slice t.f_Writes.a (t.f_Writes.xs).length t.f_Writes.c, .slice t.f_Ops.a (t.f_Ops.xs).length t.f_Ops.c, .int .i64 t.f_To])]) Try.func23 Try.ntmps23 rfl rfl rfl ?_
 refine c_seq ?_
 refine c_region ?_
 refine o_box rfl rfl fun b1 => ?_
 refine o_alloc rfl ti30 fun b2 => ?_
 refine l_nil ?_
 refine q_then ?_
 refine c_seq ?_
 refine c_mid (α := Nat × (Option Addr) × Nat × (Option Addr) × Nat × (Option Addr) × (Option Addr)) (fun z => [(0, .agg #[.int .i64 t.f_Kind, .slice t.f_Reads.a (t.f_Reads.xs).length t.f_Reads.c, .slice t.f_Writes.a (t.f_Writes.xs).length t.f_Writes.c, .slice t.f_Ops.a (t.f_Ops.xs).length t.f_Ops.c, .int .i64 t.f_To]), (1, .pointer (some ⟨b1, 0, none⟩)), (2, .pointer (some ⟨b2, 0, none⟩)), (3, .pointer (some ⟨z.1, 0, none⟩)), (6, .pointer (some ⟨b1, 0, none⟩)), (7, .int .i64 t.f_Kind), (8, .pointer (some ⟨b1, 4, none⟩)), (9, .int .i64 t.f_To), (10, .slice z.2.2.2.2.2.1 (([] : List ByteArray)).length 0), (11, .pointer (some ⟨b1, 1, none⟩)), (12, .slice t.f_Reads.a (t.f_Reads.xs).length t.f_Reads.c), (13, .slice z.2.1 (t.f_Reads.xs).length z.2.2.1), (14, .slice z.2.2.2.2.2.2 (([] : List ByteArray)).length 0), (15, .pointer (some ⟨b1, 2, none⟩)), (16, .slice t.f_Writes.a (t.f_Writes.xs).length t.f_Writes.c), (17, .slice z.2.2.2.1 (t.f_Writes.xs).length z.2.2.2.2.1), (18, .agg #[.int .i64 t.f_Kind, .slice z.2.1 (t.f_Reads.xs).length z.2.2.1, .slice z.2.2.2.1 (t.f_Writes.xs).length z.2.2.2.2.1, .slice none 0 0, .int .i64 t.f_To])]) (fun z => blk z.1 (.cells #[.int .i64 t.f_Kind, .slice z.2.1 (t.f_Reads.xs).length z.2.2.1, .slice z.2.2.2.1 (t.f_Writes.xs).length z.2.2.2.2.1, .slice none 0 0, .int .i64 t.f_To] 30 (0, 0)) :: row e_S.T e_S.sz z.2.2.2.1 (t.f_Writes.xs).length z.2.2.2.2.1 (flat e_S t.f_Writes.xs) :: row e_S.T e_S.sz z.2.1 (t.f_Reads.xs).length z.2.2.1 (flat e_S t.f_Reads.xs) :: blk b2 (qzRCopy2) :: blk b1 (qzRCopy1 t) :: F) (fun z => True) ?_ ?_
 · -- cut
  refine c_heldF [] (blk b2 (qzRCopy2) :: blk b1 (qzRCopy1 t) :: F) (by kernel_rfl) ?_
  refine h_take 0 rfl rfl (by kernel_rfl) (by kernel_rfl) (by kernel_rfl) (fun L0 => v_fieldAddr (q := ⟨b1, 0, none⟩) rfl rfl Try.underlying30 rfl ti3 rfl) ?_
  refine h_take 1 rfl rfl (by kernel_rfl) (by kernel_rfl) (by kernel_rfl) (fun L0 => v_load1 rfl rfl Try.underlying3 rfl (rd_mem 1 rfl rfl)) ?_
  refine h_take 2 rfl rfl (by kernel_rfl) (by kernel_rfl) (by kernel_rfl) (fun L0 => v_fieldAddr (q := ⟨b1, 4, none⟩) rfl rfl Try.underlying30 rfl ti3 rfl) ?_
  refine h_take 3 rfl rfl (by kernel_rfl) (by kernel_rfl) (by kernel_rfl) (fun L0 => v_load1 rfl rfl Try.underlying3 rfl (rd_mem 1 rfl rfl)) ?_
  refine h_take 5 rfl rfl (by kernel_rfl) (by kernel_rfl) (by kernel_rfl) (fun L0 => v_fieldAddr (q := ⟨b1, 1, none⟩) rfl rfl Try.underlying30 rfl ti27 rfl) ?_
  refine h_take 6 rfl rfl (by kernel_rfl) (by kernel_rfl) (by kernel_rfl) (fun L0 => v_load1 rfl rfl Try.underlying27 rfl (rd_mem 1 rfl rfl)) ?_
  refine h_take 9 rfl rfl (by kernel_rfl) (by kernel_rfl) (by kernel_rfl) (fun L0 => v_fieldAddr (q := ⟨b1, 2, none⟩) rfl rfl Try.underlying30 rfl ti27 rfl) ?_
  refine h_take 10 rfl rfl (by kernel_rfl) (by kernel_rfl) (by kernel_rfl) (fun L0 => v_load1 rfl rfl Try.underlying27 rfl (rd_mem 1 rfl rfl)) ?_
  refine h_many (is := [4, 8, 13]) (by kernel_rfl) (by decide) (forall_cons ⟨_, rfl, ?_⟩ (forall_cons ⟨_, rfl, ?_⟩ (forall_cons ⟨_, rfl, ?_⟩ forall_nil)))
  · -- 4 comes first
   refine l_conv (L' := blk b2 (qzRCopy2) :: blk b1 (qzRCopy1 t) :: F) (fun w S => S.perm List.perm_append_comm) ?_
   refine o_lit e_S_ok rfl Try.underlying27 rfl rfl rfl (lit_ok rfl) ([] : List ByteArray) rfl rfl fun a10 => ?_
   refine l_nil ?_
   refine q_conv (L' := (blk b2 (qzRCopy2) :: blk b1 (qzRCopy1 t) :: F) ++ [row e_S.T e_S.sz a10 (([] : List ByteArray)).length 0 (flat e_S ([] : List ByteArray))]) (fun w S => S.perm (List.perm_append_comm (l₁ := [row e_S.T e_S.sz a10 (([] : List ByteArray)).length 0 (flat e_S ([] : List ByteArray))]) (l₂ := blk b2 (qzRCopy2) :: blk b1 (qzRCopy1 t) :: F))) ?_
   refine h_next ?_
   refine h_many (is := [7, 8, 13]) (by kernel_rfl) (by decide) (forall_cons ⟨_, rfl, ?_⟩ (forall_cons ⟨_, rfl, ?_⟩ (forall_cons ⟨_, rfl, ?_⟩ forall_nil)))
   · -- 7 comes first
    refine l_conv (L' := row e_S.T e_S.sz a10 (([] : List ByteArray)).length 0 (flat e_S ([] : List ByteArray)) :: blk b2 (qzRCopy2) :: blk b1 (qzRCopy1 t) :: F) (fun w S => S.perm List.perm_append_comm) ?_
    refine o_append e_S_ok rfl rfl rfl Try.underlying27 (TxR.c (TxR.c (TxR.c T_t))).rr (by show (_ + _) * _ ≤ _; simp only [List.length_nil]; omega) (by simp only [List.length_nil]; omega) fun a13 c13 => ?_
    refine l_eq (t := 13) (v' := .slice a13 (t.f_Reads.xs).length c13) rfl (by rfl) ?_
    refine l_conv (L' := row e_S.T e_S.sz a13 (t.f_Reads.xs).length c13 (flat e_S t.f_Reads.xs) :: _) (fun w S => by exact S) ?_
    refine l_nil ?_
    refine q_conv (L' := (blk b2 (qzRCopy2) :: blk b1 (qzRCopy1 t) :: F) ++ [row e_S.T e_S.sz a13 (t.f_Reads.xs).length c13 (flat e_S t.f_Reads.xs)]) (fun w S => S.perm (List.perm_append_comm (l₁ := [row e_S.T e_S.sz a13 (t.f_Reads.xs).length c13 (flat e_S t.f_Reads.xs)]) (l₂ := blk b2 (qzRCopy2) :: blk b1 (qzRCopy1 t) :: F))) ?_
    refine h_next ?_
    refine h_many (is := [8, 13]) (by kernel_rfl) (by decide) (forall_cons ⟨_, rfl, ?_⟩ (forall_cons ⟨_, rfl, ?_⟩ forall_nil))
    · -- 8 comes first
     refine l_conv (L' := row e_S.T e_S.sz a13 (t.f_Reads.xs).length c13 (flat e_S t.f_Reads.xs) :: blk b2 (qzRCopy2) :: blk b1 (qzRCopy1 t) :: F) (fun w S => S.perm List.perm_append_comm) ?_
     refine o_lit e_S_ok rfl Try.underlying27 rfl rfl rfl (lit_ok rfl) ([] : List ByteArray) rfl rfl fun a14 => ?_
     refine l_nil ?_
     refine q_conv (L' := (blk b2 (qzRCopy2) :: blk b1 (qzRCopy1 t) :: F) ++ [row e_S.T e_S.sz a14 (([] : List ByteArray)).length 0 (flat e_S ([] : List ByteArray)), row e_S.T e_S.sz a13 (t.f_Reads.xs).length c13 (flat e_S t.f_Reads.xs)]) (fun w S => S.perm (List.perm_append_comm (l₁ := [row e_S.T e_S.sz a14 (([] : List ByteArray)).length 0 (flat e_S ([] : List ByteArray)), row e_S.T e_S.sz a13 (t.f_Reads.xs).length c13 (flat e_S t.f_Reads.xs)]) (l₂ := blk b2 (qzRCopy2) :: blk b1 (qzRCopy1 t) :: F))) ?_
     refine h_next ?_
     refine h_many (is := [11, 13]) (by kernel_rfl) (by decide) (forall_cons ⟨_, rfl, ?_⟩ (forall_cons ⟨_, rfl, ?_⟩ forall_nil))
     · -- 11 comes first
      refine l_conv (L' := row e_S.T e_S.sz a14 (([] : List ByteArray)).length 0 (flat e_S ([] : List ByteArray)) :: row e_S.T e_S.sz a13 (t.f_Reads.xs).length c13 (flat e_S t.f_Reads.xs) :: blk b2 (qzRCopy2) :: blk b1 (qzRCopy1 t) :: F) (fun w S => S.perm List.perm_append_comm) ?_
      refine o_append e_S_ok rfl rfl rfl Try.underlying27 (TxR.c (TxR.c (TxR.c (TxR.c T_t)))).rw (by show (_ + _) * _ ≤ _; simp only [List.length_nil]; omega) (by simp only [List.length_nil]; omega) fun a17 c17 => ?_
      refine l_eq (t := 17) (v' := .slice a17 (t.f_Writes.xs).length c17) rfl (by rfl) ?_
      refine l_conv (L' := row e_S.T e_S.sz a17 (t.f_Writes.xs).length c17 (flat e_S t.f_Writes.xs) :: _) (fun w S => by exact S) ?_
      refine l_nil ?_
      refine q_conv (L' := (blk b2 (qzRCopy2) :: blk b1 (qzRCopy1 t) :: F) ++ [row e_S.T e_S.sz a17 (t.f_Writes.xs).length c17 (flat e_S t.f_Writes.xs), row e_S.T e_S.sz a13 (t.f_Reads.xs).length c13 (flat e_S t.f_Reads.xs)]) (fun w S => S.perm (List.perm_append_comm (l₁ := [row e_S.T e_S.sz a17 (t.f_Writes.xs).length c17 (flat e_S t.f_Writes.xs), row e_S.T e_S.sz a13 (t.f_Reads.xs).length c13 (flat e_S t.f_Reads.xs)]) (l₂ := blk b2 (qzRCopy2) :: blk b1 (qzRCopy1 t) :: F))) ?_
      refine h_next ?_
      refine h_take 12 rfl rfl (by kernel_rfl) (by kernel_rfl) (by kernel_rfl) (fun L0 => v_build rfl sp30 ti30 rfl ((fill_cons (cells' := [.int .i64 t.f_Kind, .slice none 0 0, .slice none 0 0, .slice none 0 0, .int .i64 0]) rfl rfl rfl rfl (fill_cons (cells' := [.int .i64 t.f_Kind, .slice none 0 0, .slice none 0 0, .slice none 0 0, .int .i64 t.f_To]) rfl rfl rfl rfl (fill_cons (cells' := [.int .i64 t.f_Kind, .slice a13 (t.f_Reads.xs).length c13, .slice none 0 0, .slice none 0 0, .int .i64 t.f_To]) rfl rfl rfl rfl (fill_cons (cells' := [.int .i64 t.f_Kind, .slice a13 (t.f_Reads.xs).length c13, .slice a17 (t.f_Writes.xs).length c17, .slice none 0 0, .int .i64 t.f_To]) rfl rfl rfl rfl fill_nil)))))) ?_
      refine h_one 13 rfl (by kernel_rfl) ?_
      refine l_conv (L' := row e_S.T e_S.sz a17 (t.f_Writes.xs).length c17 (flat e_S t.f_Writes.xs) :: row e_S.T e_S.sz a13 (t.f_Reads.xs).length c13 (flat e_S t.f_Reads.xs) :: blk b2 (qzRCopy2) :: blk b1 (qzRCopy1 t) :: F) (fun w S => S.perm List.perm_append_comm) ?_
      refine o_alloc rfl ti30 fun b3 => ?_
      refine l_nil ?_
      refine q_conv (L' := (blk b2 (qzRCopy2) :: blk b1 (qzRCopy1 t) :: F) ++ [blk b3 (qzRCopy2), row e_S.T e_S.sz a17 (t.f_Writes.xs).length c17 (flat e_S t.f_Writes.xs), row e_S.T e_S.sz a13 (t.f_Reads.xs).length c13 (flat e_S t.f_Reads.xs)]) (fun w S => S.perm (List.perm_append_comm (l₁ := [blk b3 (qzRCopy2), row e_S.T e_S.sz a17 (t.f_Writes.xs).length c17 (flat e_S t.f_Writes.xs), row e_S.T e_S.sz a13 (t.f_Reads.xs).length c13 (flat e_S t.f_Reads.xs)]) (l₂ := blk b2 (qzRCopy2) :: blk b1 (qzRCopy1 t) :: F))) ?_
      refine h_next ?_
      refine h_one 14 rfl (by kernel_rfl) ?_
      refine l_conv (L' := blk b3 (qzRCopy2) :: row e_S.T e_S.sz a17 (t.f_Writes.xs).length c17 (flat e_S t.f_Writes.xs) :: row e_S.T e_S.sz a13 (t.f_Reads.xs).length c13 (flat e_S t.f_Reads.xs) :: blk b2 (qzRCopy2) :: blk b1 (qzRCopy1 t) :: F) (fun w S => S.perm List.perm_append_comm) ?_
      refine o_storen rfl rfl ti30 rfl rfl rfl rfl ?_
      refine l_nil ?_
      refine q_conv (L' := (blk b2 (qzRCopy2) :: blk b1 (qzRCopy1 t) :: F) ++ [blk b3 (qzRCopy3 t a13 c13 a17 c17), row e_S.T e_S.sz a17 (t.f_Writes.xs).length c17 (flat e_S t.f_Writes.xs), row e_S.T e_S.sz a13 (t.f_Reads.xs).length c13 (flat e_S t.f_Reads.xs)]) (fun w S => S.perm (List.perm_append_comm (l₁ := [blk b3 (qzRCopy3 t a13 c13 a17 c17), row e_S.T e_S.sz a17 (t.f_Writes.xs).length c17 (flat e_S t.f_Writes.xs), row e_S.T e_S.sz a13 (t.f_Reads.xs).length c13 (flat e_S t.f_Reads.xs)]) (l₂ := blk b2 (qzRCopy2) :: blk b1 (qzRCopy1 t) :: F))) ?_
      refine h_next ?_
      refine h_done (by kernel_rfl) ?_
      refine q_conv (L' := blk b3 (qzRCopy3 t a13 c13 a17 c17) :: row e_S.T e_S.sz a17 (t.f_Writes.xs).length c17 (flat e_S t.f_Writes.xs) :: row e_S.T e_S.sz a13 (t.f_Reads.xs).length c13 (flat e_S t.f_Reads.xs) :: blk b2 (qzRCopy2) :: blk b1 (qzRCopy1 t) :: F) (fun w S => S.perm List.perm_append_comm) ?_
      exact q_mid (b3, a13, c13, a17, c17, a10, a14) (by trivial) ⟨(by first | rfl | exact vint (by omega)), (by first | rfl | exact vint (by omega)), (by first | rfl | exact vint (by omega)), (by first | rfl | exact vint (by omega)), (by first | rfl | exact vint (by omega)), (by first | rfl | exact vint (by omega)), (by first | rfl | exact vint (by omega)), (by first | rfl | exact vint (by omega)), (by first | rfl | exact vint (by omega)), (by first | rfl | exact vint (by omega)), (by first | rfl | exact vint (by omega)), (by first | rfl | exact vint (by omega)), (by first | rfl | exact vint (by omega)), (by first | rfl | exact vint (by omega)), (by first | rfl | exact vint (by omega)), (by first | rfl | exact vint (by omega)), (by first | rfl | exact vint (by omega)), trivial⟩ (fun w S => S)
     · -- 13 comes first
      refine l_conv (L' := row e_S.T e_S.sz a14 (([] : List ByteArray)).length 0 (flat e_S ([] : List ByteArray)) :: row e_S.T e_S.sz a13 (t.f_Reads.xs).length c13 (flat e_S t.f_Reads.xs) :: blk b2 (qzRCopy2) :: blk b1 (qzRCopy1 t) :: F) (fun w S => S.perm List.perm_append_comm) ?_
      refine o_alloc rfl ti30 fun b3 => ?_
      refine l_nil ?_
      refine q_conv (L' := (blk b2 (qzRCopy2) :: blk b1 (qzRCopy1 t) :: F) ++ [blk b3 (qzRCopy2), row e_S.T e_S.sz a14 (([] : List ByteArray)).length 0 (flat e_S ([] : List ByteArray)), row e_S.T e_S.sz a13 (t.f_Reads.xs).length c13 (flat e_S t.f_Reads.xs)]) (fun w S => S.perm (List.perm_append_comm (l₁ := [blk b3 (qzRCopy2), row e_S.T e_S.sz a14 (([] : List ByteArray)).length 0 (flat e_S ([] : List ByteArray)), row e_S.T e_S.sz a13 (t.f_Reads.xs).length c13 (flat e_S t.f_Reads.xs)]) (l₂ := blk b2 (qzRCopy2) :: blk b1 (qzRCopy1 t) :: F))) ?_
      refine h_next ?_
      refine h_one 11 rfl (by kernel_rfl) ?_
      refine l_conv (L' := blk b3 (qzRCopy2) :: row e_S.T e_S.sz a14 (([] : List ByteArray)).length 0 (flat e_S ([] : List ByteArray)) :: row e_S.T e_S.sz a13 (t.f_Reads.xs).length c13 (flat e_S t.f_Reads.xs) :: blk b2 (qzRCopy2) :: blk b1 (qzRCopy1 t) :: F) (fun w S => S.perm List.perm_append_comm) ?_
      refine l_f1 ?_
      refine o_append e_S_ok rfl rfl rfl Try.underlying27 (TxR.c (TxR.c (TxR.c (TxR.c (TxR.c T_t))))).rw (by show (_ + _) * _ ≤ _; simp only [List.length_nil]; omega) (by simp only [List.length_nil]; omega) fun a17 c17 => ?_
      refine l_eq (t := 17) (v' := .slice a17 (t.f_Writes.xs).length c17) rfl (by rfl) ?_
      refine l_conv (L' := row e_S.T e_S.sz a17 (t.f_Writes.xs).length c17 (flat e_S t.f_Writes.xs) :: _) (fun w S => by exact S) ?_
      refine l_nil ?_
      refine q_conv (L' := (blk b2 (qzRCopy2) :: blk b1 (qzRCopy1 t) :: F) ++ [row e_S.T e_S.sz a17 (t.f_Writes.xs).length c17 (flat e_S t.f_Writes.xs), blk b3 (qzRCopy2), row e_S.T e_S.sz a13 (t.f_Reads.xs).length c13 (flat e_S t.f_Reads.xs)]) (fun w S => S.perm (List.perm_append_comm (l₁ := [row e_S.T e_S.sz a17 (t.f_Writes.xs).length c17 (flat e_S t.f_Writes.xs), blk b3 (qzRCopy2), row e_S.T e_S.sz a13 (t.f_Reads.xs).length c13 (flat e_S t.f_Reads.xs)]) (l₂ := blk b2 (qzRCopy2) :: blk b1 (qzRCopy1 t) :: F))) ?_
      refine h_next ?_
      refine h_take 12 rfl rfl (by kernel_rfl) (by kernel_rfl) (by kernel_rfl) (fun L0 => v_build rfl sp30 ti30 rfl ((fill_cons (cells' := [.int .i64 t.f_Kind, .slice none 0 0, .slice none 0 0, .slice none 0 0, .int .i64 0]) rfl rfl rfl rfl (fill_cons (cells' := [.int .i64 t.f_Kind, .slice none 0 0, .slice none 0 0, .slice none 0 0, .int .i64 t.f_To]) rfl rfl rfl rfl (fill_cons (cells' := [.int .i64 t.f_Kind, .slice a13 (t.f_Reads.xs).length c13, .slice none 0 0, .slice none 0 0, .int .i64 t.f_To]) rfl rfl rfl rfl (fill_cons (cells' := [.int .i64 t.f_Kind, .slice a13 (t.f_Reads.xs).length c13, .slice a17 (t.f_Writes.xs).length c17, .slice none 0 0, .int .i64 t.f_To]) rfl rfl rfl rfl fill_nil)))))) ?_
      refine h_one 14 rfl (by kernel_rfl) ?_
      refine l_conv (L' := row e_S.T e_S.sz a17 (t.f_Writes.xs).length c17 (flat e_S t.f_Writes.xs) :: blk b3 (qzRCopy2) :: row e_S.T e_S.sz a13 (t.f_Reads.xs).length c13 (flat e_S t.f_Reads.xs) :: blk b2 (qzRCopy2) :: blk b1 (qzRCopy1 t) :: F) (fun w S => S.perm List.perm_append_comm) ?_
      refine l_f1 ?_
      refine o_storen rfl rfl ti30 rfl rfl rfl rfl ?_
      refine l_nil ?_
      refine q_conv (L' := (blk b2 (qzRCopy2) :: blk b1 (qzRCopy1 t) :: F) ++ [blk b3 (qzRCopy3 t a13 c13 a17 c17), row e_S.T e_S.sz a17 (t.f_Writes.xs).length c17 (flat e_S t.f_Writes.xs), row e_S.T e_S.sz a13 (t.f_Reads.xs).length c13 (flat e_S t.f_Reads.xs)]) (fun w S => S.perm (List.perm_append_comm (l₁ := [blk b3 (qzRCopy3 t a13 c13 a17 c17), row e_S.T e_S.sz a17 (t.f_Writes.xs).length c17 (flat e_S t.f_Writes.xs), row e_S.T e_S.sz a13 (t.f_Reads.xs).length c13 (flat e_S t.f_Reads.xs)]) (l₂ := blk b2 (qzRCopy2) :: blk b1 (qzRCopy1 t) :: F))) ?_
      refine h_next ?_
      refine h_done (by kernel_rfl) ?_
      refine q_conv (L' := blk b3 (qzRCopy3 t a13 c13 a17 c17) :: row e_S.T e_S.sz a17 (t.f_Writes.xs).length c17 (flat e_S t.f_Writes.xs) :: row e_S.T e_S.sz a13 (t.f_Reads.xs).length c13 (flat e_S t.f_Reads.xs) :: blk b2 (qzRCopy2) :: blk b1 (qzRCopy1 t) :: F) (fun w S => S.perm List.perm_append_comm) ?_
      exact q_mid (b3, a13, c13, a17, c17, a10, a14) (by trivial) ⟨(by first | rfl | exact vint (by omega)), (by first | rfl | exact vint (by omega)), (by first | rfl | exact vint (by omega)), (by first | rfl | exact vint (by omega)), (by first | rfl | exact vint (by omega)), (by first | rfl | exact vint (by omega)), (by first | rfl | exact vint (by omega)), (by first | rfl | exact vint (by omega)), (by first | rfl | exact vint (by omega)), (by first | rfl | exact vint (by omega)), (by first | rfl | exact vint (by omega)), (by first | rfl | exact vint (by omega)), (by first | rfl | exact vint (by omega)), (by first | rfl | exact vint (by omega)), (by first | rfl | exact vint (by omega)), (by first | rfl | exact vint (by omega)), (by first | rfl | exact vint (by omega)), trivial⟩ (fun w S => S)
    · -- 13 comes first
     refine l_conv (L' := row e_S.T e_S.sz a13 (t.f_Reads.xs).length c13 (flat e_S t.f_Reads.xs) :: blk b2 (qzRCopy2) :: blk b1 (qzRCopy1 t) :: F) (fun w S => S.perm List.perm_append_comm) ?_
     refine o_alloc rfl ti30 fun b3 => ?_
     refine l_nil ?_
     refine q_conv (L' := (blk b2 (qzRCopy2) :: blk b1 (qzRCopy1 t) :: F) ++ [blk b3 (qzRCopy2), row e_S.T e_S.sz a13 (t.f_Reads.xs).length c13 (flat e_S t.f_Reads.xs)]) (fun w S => S.perm (List.perm_append_comm (l₁ := [blk b3 (qzRCopy2), row e_S.T e_S.sz a13 (t.f_Reads.xs).length c13 (flat e_S t.f_Reads.xs)]) (l₂ := blk b2 (qzRCopy2) :: blk b1 (qzRCopy1 t) :: F))) ?_
     refine h_next ?_
     refine h_one 8 rfl (by kernel_rfl) ?_
     refine l_conv (L' := blk b3 (qzRCopy2) :: row e_S.T e_S.sz a13 (t.f_Reads.xs).length c13 (flat e_S t.f_Reads.xs) :: blk b2 (qzRCopy2) :: blk b1 (qzRCopy1 t) :: F) (fun w S => S.perm List.perm_append_comm) ?_
     refine o_lit e_S_ok rfl Try.underlying27 rfl rfl rfl (lit_ok rfl) ([] : List ByteArray) rfl rfl fun a14 => ?_
     refine l_nil ?_
     refine q_conv (L' := (blk b2 (qzRCopy2) :: blk b1 (qzRCopy1 t) :: F) ++ [row e_S.T e_S.sz a14 (([] : List ByteArray)).length 0 (flat e_S ([] : List ByteArray)), blk b3 (qzRCopy2), row e_S.T e_S.sz a13 (t.f_Reads.xs).length c13 (flat e_S t.f_Reads.xs)]) (fun w S => S.perm (List.perm_append_comm (l₁ := [row e_S.T e_S.sz a14 (([] : List ByteArray)).length 0 (flat e_S ([] : List ByteArray)), blk b3 (qzRCopy2), row e_S.T e_S.sz a13 (t.f_Reads.xs).length c13 (flat e_S t.f_Reads.xs)]) (l₂ := blk b2 (qzRCopy2) :: blk b1 (qzRCopy1 t) :: F))) ?_
     refine h_next ?_
     refine h_one 11 rfl (by kernel_rfl) ?_
     refine l_conv (L' := row e_S.T e_S.sz a14 (([] : List ByteArray)).length 0 (flat e_S ([] : List ByteArray)) :: blk b3 (qzRCopy2) :: row e_S.T e_S.sz a13 (t.f_Reads.xs).length c13 (flat e_S t.f_Reads.xs) :: blk b2 (qzRCopy2) :: blk b1 (qzRCopy1 t) :: F) (fun w S => S.perm List.perm_append_comm) ?_
     refine o_append e_S_ok rfl rfl rfl Try.underlying27 (TxR.c (TxR.c (TxR.c (TxR.c (TxR.c T_t))))).rw (by show (_ + _) * _ ≤ _; simp only [List.length_nil]; omega) (by simp only [List.length_nil]; omega) fun a17 c17 => ?_
     refine l_eq (t := 17) (v' := .slice a17 (t.f_Writes.xs).length c17) rfl (by rfl) ?_
     refine l_conv (L' := row e_S.T e_S.sz a17 (t.f_Writes.xs).length c17 (flat e_S t.f_Writes.xs) :: _) (fun w S => by exact S) ?_
     refine l_nil ?_
     refine q_conv (L' := (blk b2 (qzRCopy2) :: blk b1 (qzRCopy1 t) :: F) ++ [row e_S.T e_S.sz a17 (t.f_Writes.xs).length c17 (flat e_S t.f_Writes.xs), blk b3 (qzRCopy2), row e_S.T e_S.sz a13 (t.f_Reads.xs).length c13 (flat e_S t.f_Reads.xs)]) (fun w S => S.perm (List.perm_append_comm (l₁ := [row e_S.T e_S.sz a17 (t.f_Writes.xs).length c17 (flat e_S t.f_Writes.xs), blk b3 (qzRCopy2), row e_S.T e_S.sz a13 (t.f_Reads.xs).length c13 (flat e_S t.f_Reads.xs)]) (l₂ := blk b2 (qzRCopy2) :: blk b1 (qzRCopy1 t) :: F))) ?_
     refine h_next ?_
     refine h_take 12 rfl rfl (by kernel_rfl) (by kernel_rfl) (by kernel_rfl) (fun L0 => v_build rfl sp30 ti30 rfl ((fill_cons (cells' := [.int .i64 t.f_Kind, .slice none 0 0, .slice none 0 0, .slice none 0 0, .int .i64 0]) rfl rfl rfl rfl (fill_cons (cells' := [.int .i64 t.f_Kind, .slice none 0 0, .slice none 0 0, .slice none 0 0, .int .i64 t.f_To]) rfl rfl rfl rfl (fill_cons (cells' := [.int .i64 t.f_Kind, .slice a13 (t.f_Reads.xs).length c13, .slice none 0 0, .slice none 0 0, .int .i64 t.f_To]) rfl rfl rfl rfl (fill_cons (cells' := [.int .i64 t.f_Kind, .slice a13 (t.f_Reads.xs).length c13, .slice a17 (t.f_Writes.xs).length c17, .slice none 0 0, .int .i64 t.f_To]) rfl rfl rfl rfl fill_nil)))))) ?_
     refine h_one 14 rfl (by kernel_rfl) ?_
     refine l_conv (L' := row e_S.T e_S.sz a17 (t.f_Writes.xs).length c17 (flat e_S t.f_Writes.xs) :: blk b3 (qzRCopy2) :: row e_S.T e_S.sz a13 (t.f_Reads.xs).length c13 (flat e_S t.f_Reads.xs) :: blk b2 (qzRCopy2) :: blk b1 (qzRCopy1 t) :: F) (fun w S => S.perm List.perm_append_comm) ?_
     refine l_f1 ?_
     refine o_storen rfl rfl ti30 rfl rfl rfl rfl ?_
     refine l_nil ?_
     refine q_conv (L' := (blk b2 (qzRCopy2) :: blk b1 (qzRCopy1 t) :: F) ++ [blk b3 (qzRCopy3 t a13 c13 a17 c17), row e_S.T e_S.sz a17 (t.f_Writes.xs).length c17 (flat e_S t.f_Writes.xs), row e_S.T e_S.sz a13 (t.f_Reads.xs).length c13 (flat e_S t.f_Reads.xs)]) (fun w S => S.perm (List.perm_append_comm (l₁ := [blk b3 (qzRCopy3 t a13 c13 a17 c17), row e_S.T e_S.sz a17 (t.f_Writes.xs).length c17 (flat e_S t.f_Writes.xs), row e_S.T e_S.sz a13 (t.f_Reads.xs).length c13 (flat e_S t.f_Reads.xs)]) (l₂ := blk b2 (qzRCopy2) :: blk b1 (qzRCopy1 t) :: F))) ?_
     refine h_next ?_
     refine h_done (by kernel_rfl) ?_
     refine q_conv (L' := blk b3 (qzRCopy3 t a13 c13 a17 c17) :: row e_S.T e_S.sz a17 (t.f_Writes.xs).length c17 (flat e_S t.f_Writes.xs) :: row e_S.T e_S.sz a13 (t.f_Reads.xs).length c13 (flat e_S t.f_Reads.xs) :: blk b2 (qzRCopy2) :: blk b1 (qzRCopy1 t) :: F) (fun w S => S.perm List.perm_append_comm) ?_
     exact q_mid (b3, a13, c13, a17, c17, a10, a14) (by trivial) ⟨(by first | rfl | exact vint (by omega)), (by first | rfl | exact vint (by omega)), (by first | rfl | exact vint (by omega)), (by first | rfl | exact vint (by omega)), (by first | rfl | exact vint (by omega)), (by first | rfl | exact vint (by omega)), (by first | rfl | exact vint (by omega)), (by first | rfl | exact vint (by omega)), (by first | rfl | exact vint (by omega)), (by first | rfl | exact vint (by omega)), (by first | rfl | exact vint (by omega)), (by first | rfl | exact vint (by omega)), (by first | rfl | exact vint (by omega)), (by first | rfl | exact vint (by omega)), (by first | rfl | exact vint (by omega)), (by first | rfl | exact vint (by omega)), (by first | rfl | exact vint (by omega)), trivial⟩ (fun w S => S)
   · -- 8 comes first
    refine l_conv (L' := row e_S.T e_S.sz a10 (([] : List ByteArray)).length 0 (flat e_S ([] : List ByteArray)) :: blk b2 (qzRCopy2) :: blk b1 (qzRCopy1 t) :: F) (fun w S => S.perm List.perm_append_comm) ?_
    refine o_lit e_S_ok rfl Try.underlying27 rfl rfl rfl (lit_ok rfl) ([] : List ByteArray) rfl rfl fun a14 => ?_
    refine l_nil ?_
    refine q_conv (L' := (blk b2 (qzRCopy2) :: blk b1 (qzRCopy1 t) :: F) ++ [row e_S.T e_S.sz a14 (([] : List ByteArray)).length 0 (flat e_S ([] : List ByteArray)), row e_S.T e_S.sz a10 (([] : List ByteArray)).length 0 (flat e_S ([] : List ByteArray))]) (fun w S => S.perm (List.perm_append_comm (l₁ := [row e_S.T e_S.sz a14 (([] : List ByteArray)).length 0 (flat e_S ([] : List ByteArray)), row e_S.T e_S.sz a10 (([] : List ByteArray)).length 0 (flat e_S ([] : List ByteArray))]) (l₂ := blk b2 (qzRCopy2) :: blk b1 (qzRCopy1 t) :: F))) ?_
    refine h_next ?_
    refine h_many (is := [7, 13]) (by kernel_rfl) (by decide) (forall_cons ⟨_, rfl, ?_⟩ (forall_cons ⟨_, rfl, ?_⟩ forall_nil))
    · -- 7 comes first
     refine l_conv (L' := row e_S.T e_S.sz a14 (([] : List ByteArray)).length 0 (flat e_S ([] : List ByteArray)) :: row e_S.T e_S.sz a10 (([] : List ByteArray)).length 0 (flat e_S ([] : List ByteArray)) :: blk b2 (qzRCopy2) :: blk b1 (qzRCopy1 t) :: F) (fun w S => S.perm List.perm_append_comm) ?_
     refine l_f1 ?_
     refine o_append e_S_ok rfl rfl rfl Try.underlying27 (TxR.c (TxR.c (TxR.c (TxR.c T_t)))).rr (by show (_ + _) * _ ≤ _; simp only [List.length_nil]; omega) (by simp only [List.length_nil]; omega) fun a13 c13 => ?_
     refine l_eq (t := 13) (v' := .slice a13 (t.f_Reads.xs).length c13) rfl (by rfl) ?_
     refine l_conv (L' := row e_S.T e_S.sz a13 (t.f_Reads.xs).length c13 (flat e_S t.f_Reads.xs) :: _) (fun w S => by exact S) ?_
     refine l_nil ?_
     refine q_conv (L' := (blk b2 (qzRCopy2) :: blk b1 (qzRCopy1 t) :: F) ++ [row e_S.T e_S.sz a13 (t.f_Reads.xs).length c13 (flat e_S t.f_Reads.xs), row e_S.T e_S.sz a14 (([] : List ByteArray)).length 0 (flat e_S ([] : List ByteArray))]) (fun w S => S.perm (List.perm_append_comm (l₁ := [row e_S.T e_S.sz a13 (t.f_Reads.xs).length c13 (flat e_S t.f_Reads.xs), row e_S.T e_S.sz a14 (([] : List ByteArray)).length 0 (flat e_S ([] : List ByteArray))]) (l₂ := blk b2 (qzRCopy2) :: blk b1 (qzRCopy1 t) :: F))) ?_
     refine h_next ?_
     refine h_many (is := [11, 13]) (by kernel_rfl) (by decide) (forall_cons ⟨_, rfl, ?_⟩ (forall_cons ⟨_, rfl, ?_⟩ forall_nil))
     · -- 11 comes first
      refine l_conv (L' := row e_S.T e_S.sz a13 (t.f_Reads.xs).length c13 (flat e_S t.f_Reads.xs) :: row e_S.T e_S.sz a14 (([] : List ByteArray)).length 0 (flat e_S ([] : List ByteArray)) :: blk b2 (qzRCopy2) :: blk b1 (qzRCopy1 t) :: F) (fun w S => S.perm List.perm_append_comm) ?_
      refine l_f1 ?_
      refine o_append e_S_ok rfl rfl rfl Try.underlying27 (TxR.c (TxR.c (TxR.c (TxR.c T_t)))).rw (by show (_ + _) * _ ≤ _; simp only [List.length_nil]; omega) (by simp only [List.length_nil]; omega) fun a17 c17 => ?_
      refine l_eq (t := 17) (v' := .slice a17 (t.f_Writes.xs).length c17) rfl (by rfl) ?_
      refine l_conv (L' := row e_S.T e_S.sz a17 (t.f_Writes.xs).length c17 (flat e_S t.f_Writes.xs) :: _) (fun w S => by exact S) ?_
      refine l_nil ?_
      refine q_conv (L' := (blk b2 (qzRCopy2) :: blk b1 (qzRCopy1 t) :: F) ++ [row e_S.T e_S.sz a17 (t.f_Writes.xs).length c17 (flat e_S t.f_Writes.xs), row e_S.T e_S.sz a13 (t.f_Reads.xs).length c13 (flat e_S t.f_Reads.xs)]) (fun w S => S.perm (List.perm_append_comm (l₁ := [row e_S.T e_S.sz a17 (t.f_Writes.xs).length c17 (flat e_S t.f_Writes.xs), row e_S.T e_S.sz a13 (t.f_Reads.xs).length c13 (flat e_S t.f_Reads.xs)]) (l₂ := blk b2 (qzRCopy2) :: blk b1 (qzRCopy1 t) :: F))) ?_
      refine h_next ?_
      refine h_take 12 rfl rfl (by kernel_rfl) (by kernel_rfl) (by kernel_rfl) (fun L0 => v_build rfl sp30 ti30 rfl ((fill_cons (cells' := [.int .i64 t.f_Kind, .slice none 0 0, .slice none 0 0, .slice none 0 0, .int .i64 0]) rfl rfl rfl rfl (fill_cons (cells' := [.int .i64 t.f_Kind, .slice none 0 0, .slice none 0 0, .slice none 0 0, .int .i64 t.f_To]) rfl rfl rfl rfl (fill_cons (cells' := [.int .i64 t.f_Kind, .slice a13 (t.f_Reads.xs).length c13, .slice none 0 0, .slice none 0 0, .int .i64 t.f_To]) rfl rfl rfl rfl (fill_cons (cells' := [.int .i64 t.f_Kind, .slice a13 (t.f_Reads.xs).length c13, .slice a17 (t.f_Writes.xs).length c17, .slice none 0 0, .int .i64 t.f_To]) rfl rfl rfl rfl fill_nil)))))) ?_
      refine h_one 13 rfl (by kernel_rfl) ?_
      refine l_conv (L' := row e_S.T e_S.sz a17 (t.f_Writes.xs).length c17 (flat e_S t.f_Writes.xs) :: row e_S.T e_S.sz a13 (t.f_Reads.xs).length c13 (flat e_S t.f_Reads.xs) :: blk b2 (qzRCopy2) :: blk b1 (qzRCopy1 t) :: F) (fun w S => S.perm List.perm_append_comm) ?_
      refine o_alloc rfl ti30 fun b3 => ?_
      refine l_nil ?_
      refine q_conv (L' := (blk b2 (qzRCopy2) :: blk b1 (qzRCopy1 t) :: F) ++ [blk b3 (qzRCopy2), row e_S.T e_S.sz a17 (t.f_Writes.xs).length c17 (flat e_S t.f_Writes.xs), row e_S.T e_S.sz a13 (t.f_Reads.xs).length c13 (flat e_S t.f_Reads.xs)]) (fun w S => S.perm (List.perm_append_comm (l₁ := [blk b3 (qzRCopy2), row e_S.T e_S.sz a17 (t.f_Writes.xs).length c17 (flat e_S t.f_Writes.xs), row e_S.T e_S.sz a13 (t.f_Reads.xs).length c13 (flat e_S t.f_Reads.xs)]) (l₂ := blk b2 (qzRCopy2) :: blk b1 (qzRCopy1 t) :: F))) ?_
      refine h_next ?_
      refine h_one 14 rfl (by kernel_rfl) ?_
      refine l_conv (L' := blk b3 (qzRCopy2) :: row e_S.T e_S.sz a17 (t.f_Writes.xs).length c17 (flat e_S t.f_Writes.xs) :: row e_S.T e_S.sz a13 (t.f_Reads.xs).length c13 (flat e_S t.f_Reads.xs) :: blk b2 (qzRCopy2) :: blk b1 (qzRCopy1 t) :: F) (fun w S => S.perm List.perm_append_comm) ?_
      refine o_storen rfl rfl ti30 rfl rfl rfl rfl ?_
      refine l_nil ?_
      refine q_conv (L' := (blk b2 (qzRCopy2) :: blk b1 (qzRCopy1 t) :: F) ++ [blk b3 (qzRCopy3 t a13 c13 a17 c17), row e_S.T e_S.sz a17 (t.f_Writes.xs).length c17 (flat e_S t.f_Writes.xs), row e_S.T e_S.sz a13 (t.f_Reads.xs).length c13 (flat e_S t.f_Reads.xs)]) (fun w S => S.perm (List.perm_append_comm (l₁ := [blk b3 (qzRCopy3 t a13 c13 a17 c17), row e_S.T e_S.sz a17 (t.f_Writes.xs).length c17 (flat e_S t.f_Writes.xs), row e_S.T e_S.sz a13 (t.f_Reads.xs).length c13 (flat e_S t.f_Reads.xs)]) (l₂ := blk b2 (qzRCopy2) :: blk b1 (qzRCopy1 t) :: F))) ?_
      refine h_next ?_
      refine h_done (by kernel_rfl) ?_
      refine q_conv (L' := blk b3 (qzRCopy3 t a13 c13 a17 c17) :: row e_S.T e_S.sz a17 (t.f_Writes.xs).length c17 (flat e_S t.f_Writes.xs) :: row e_S.T e_S.sz a13 (t.f_Reads.xs).length c13 (flat e_S t.f_Reads.xs) :: blk b2 (qzRCopy2) :: blk b1 (qzRCopy1 t) :: F) (fun w S => S.perm List.perm_append_comm) ?_
      exact q_mid (b3, a13, c13, a17, c17, a10, a14) (by trivial) ⟨(by first | rfl | exact vint (by omega)), (by first | rfl | exact vint (by omega)), (by first | rfl | exact vint (by omega)), (by first | rfl | exact vint (by omega)), (by first | rfl | exact vint (by omega)), (by first | rfl | exact vint (by omega)), (by first | rfl | exact vint (by omega)), (by first | rfl | exact vint (by omega)), (by first | rfl | exact vint (by omega)), (by first | rfl | exact vint (by omega)), (by first | rfl | exact vint (by omega)), (by first | rfl | exact vint (by omega)), (by first | rfl | exact vint (by omega)), (by first | rfl | exact vint (by omega)), (by first | rfl | exact vint (by omega)), (by first | rfl | exact vint (by omega)), (by first | rfl | exact vint (by omega)), trivial⟩ (fun w S => S)
     · -- 13 comes first
      refine l_conv (L' := row e_S.T e_S.sz a13 (t.f_Reads.xs).length c13 (flat e_S t.f_Reads.xs) :: row e_S.T e_S.sz a14 (([] : List ByteArray)).length 0 (flat e_S ([] : List ByteArray)) :: blk b2 (qzRCopy2) :: blk b1 (qzRCopy1 t) :: F) (fun w S => S.perm List.perm_append_comm) ?_
      refine o_alloc rfl ti30 fun b3 => ?_
      refine l_nil ?_
      refine q_conv (L' := (blk b2 (qzRCopy2) :: blk b1 (qzRCopy1 t) :: F) ++ [blk b3 (qzRCopy2), row e_S.T e_S.sz a13 (t.f_Reads.xs).length c13 (flat e_S t.f_Reads.xs), row e_S.T e_S.sz a14 (([] : List ByteArray)).length 0 (flat e_S ([] : List ByteArray))]) (fun w S => S.perm (List.perm_append_comm (l₁ := [blk b3 (qzRCopy2), row e_S.T e_S.sz a13 (t.f_Reads.xs).length c13 (flat e_S t.f_Reads.xs), row e_S.T e_S.sz a14 (([] : List ByteArray)).length 0 (flat e_S ([] : List ByteArray))]) (l₂ := blk b2 (qzRCopy2) :: blk b1 (qzRCopy1 t) :: F))) ?_
      refine h_next ?_
      refine h_one 11 rfl (by kernel_rfl) ?_
      refine l_conv (L' := blk b3 (qzRCopy2) :: row e_S.T e_S.sz a13 (t.f_Reads.xs).length c13 (flat e_S t.f_Reads.xs) :: row e_S.T e_S.sz a14 (([] : List ByteArray)).length 0 (flat e_S ([] : List ByteArray)) :: blk b2 (qzRCopy2) :: blk b1 (qzRCopy1 t) :: F) (fun w S => S.perm List.perm_append_comm) ?_
      refine l_f2 ?_
      refine o_append e_S_ok rfl rfl rfl Try.underlying27 (TxR.c (TxR.c (TxR.c (TxR.c (TxR.c T_t))))).rw (by show (_ + _) * _ ≤ _; simp only [List.length_nil]; omega) (by simp only [List.length_nil]; omega) fun a17 c17 => ?_
      refine l_eq (t := 17) (v' := .slice a17 (t.f_Writes.xs).length c17) rfl (by rfl) ?_
      refine l_conv (L' := row e_S.T e_S.sz a17 (t.f_Writes.xs).length c17 (flat e_S t.f_Writes.xs) :: _) (fun w S => by exact S) ?_
      refine l_nil ?_
      refine q_conv (L' := (blk b2 (qzRCopy2) :: blk b1 (qzRCopy1 t) :: F) ++ [row e_S.T e_S.sz a17 (t.f_Writes.xs).length c17 (flat e_S t.f_Writes.xs), blk b3 (qzRCopy2), row e_S.T e_S.sz a13 (t.f_Reads.xs).length c13 (flat e_S t.f_Reads.xs)]) (fun w S => S.perm (List.perm_append_comm (l₁ := [row e_S.T e_S.sz a17 (t.f_Writes.xs).length c17 (flat e_S t.f_Writes.xs), blk b3 (qzRCopy2), row e_S.T e_S.sz a13 (t.f_Reads.xs).length c13 (flat e_S t.f_Reads.xs)]) (l₂ := blk b2 (qzRCopy2) :: blk b1 (qzRCopy1 t) :: F))) ?_
      refine h_next ?_
      refine h_take 12 rfl rfl (by kernel_rfl) (by kernel_rfl) (by kernel_rfl) (fun L0 => v_build rfl sp30 ti30 rfl ((fill_cons (cells' := [.int .i64 t.f_Kind, .slice none 0 0, .slice none 0 0, .slice none 0 0, .int .i64 0]) rfl rfl rfl rfl (fill_cons (cells' := [.int .i64 t.f_Kind, .slice none 0 0, .slice none 0 0, .slice none 0 0, .int .i64 t.f_To]) rfl rfl rfl rfl (fill_cons (cells' := [.int .i64 t.f_Kind, .slice a13 (t.f_Reads.xs).length c13, .slice none 0 0, .slice none 0 0, .int .i64 t.f_To]) rfl rfl rfl rfl (fill_cons (cells' := [.int .i64 t.f_Kind, .slice a13 (t.f_Reads.xs).length c13, .slice a17 (t.f_Writes.xs).length c17, .slice none 0 0, .int .i64 t.f_To]) rfl rfl rfl rfl fill_nil)))))) ?_
      refine h_one 14 rfl (by kernel_rfl) ?_
      refine l_conv (L' := row e_S.T e_S.sz a17 (t.f_Writes.xs).length c17 (flat e_S t.f_Writes.xs) :: blk b3 (qzRCopy2) :: row e_S.T e_S.sz a13 (t.f_Reads.xs).length c13 (flat e_S t.f_Reads.xs) :: blk b2 (qzRCopy2) :: blk b1 (qzRCopy1 t) :: F) (fun w S => S.perm List.perm_append_comm) ?_
      refine l_f1 ?_
      refine o_storen rfl rfl ti30 rfl rfl rfl rfl ?_
      refine l_nil ?_
      refine q_conv (L' := (blk b2 (qzRCopy2) :: blk b1 (qzRCopy1 t) :: F) ++ [blk b3 (qzRCopy3 t a13 c13 a17 c17), row e_S.T e_S.sz a17 (t.f_Writes.xs).length c17 (flat e_S t.f_Writes.xs), row e_S.T e_S.sz a13 (t.f_Reads.xs).length c13 (flat e_S t.f_Reads.xs)]) (fun w S => S.perm (List.perm_append_comm (l₁ := [blk b3 (qzRCopy3 t a13 c13 a17 c17), row e_S.T e_S.sz a17 (t.f_Writes.xs).length c17 (flat e_S t.f_Writes.xs), row e_S.T e_S.sz a13 (t.f_Reads.xs).length c13 (flat e_S t.f_Reads.xs)]) (l₂ := blk b2 (qzRCopy2) :: blk b1 (qzRCopy1 t) :: F))) ?_
      refine h_next ?_
      refine h_done (by kernel_rfl) ?_
      refine q_conv (L' := blk b3 (qzRCopy3 t a13 c13 a17 c17) :: row e_S.T e_S.sz a17 (t.f_Writes.xs).length c17 (flat e_S t.f_Writes.xs) :: row e_S.T e_S.sz a13 (t.f_Reads.xs).length c13 (flat e_S t.f_Reads.xs) :: blk b2 (qzRCopy2) :: blk b1 (qzRCopy1 t) :: F) (fun w S => S.perm List.perm_append_comm) ?_
      exact q_mid (b3, a13, c13, a17, c17, a10, a14) (by trivial) ⟨(by first | rfl | exact vint (by omega)), (by first | rfl | exact vint (by omega)), (by first | rfl | exact vint (by omega)), (by first | rfl | exact vint (by omega)), (by first | rfl | exact vint (by omega)), (by first | rfl | exact vint (by omega)), (by first | rfl | exact vint (by omega)), (by first | rfl | exact vint (by omega)), (by first | rfl | exact vint (by omega)), (by first | rfl | exact vint (by omega)), (by first | rfl | exact vint (by omega)), (by first | rfl | exact vint (by omega)), (by first | rfl | exact vint (by omega)), (by first | rfl | exact vint (by omega)), (by first | rfl | exact vint (by omega)), (by first | rfl | exact vint (by omega)), (by first | rfl | exact vint (by omega)), trivial⟩ (fun w S => S)
    · -- 13 comes first
     refine l_conv (L' := row e_S.T e_S.sz a14 (([] : List ByteArray)).length 0 (flat e_S ([] : List ByteArray)) :: row e_S.T e_S.sz a10 (([] : List ByteArray)).length 0 (flat e_S ([] : List ByteArray)) :: blk b2 (qzRCopy2) :: blk b1 (qzRCopy1 t) :: F) (fun w S => S.perm List.perm_append_comm) ?_
     refine o_alloc rfl ti30 fun b3 => ?_
     refine l_nil ?_
     refine q_conv (L' := (blk b2 (qzRCopy2) :: blk b1 (qzRCopy1 t) :: F) ++ [blk b3 (qzRCopy2), row e_S.T e_S.sz a14 (([] : List ByteArray)).length 0 (flat e_S ([] : List ByteArray)), row e_S.T e_S.sz a10 (([] : List ByteArray)).length 0 (flat e_S ([] : List ByteArray))]) (fun w S => S.perm (List.perm_append_comm (l₁ := [blk b3 (qzRCopy2), row e_S.T e_S.sz a14 (([] : List ByteArray)).length 0 (flat e_S ([] : List ByteArray)), row e_S.T e_S.sz a10 (([] : List ByteArray)).length 0 (flat e_S ([] : List ByteArray))]) (l₂ := blk b2 (qzRCopy2) :: blk b1 (qzRCopy1 t) :: F))) ?_
     refine h_next ?_
     refine h_one 7 rfl (by kernel_rfl) ?_
     refine l_conv (L' := blk b3 (qzRCopy2) :: row e_S.T e_S.sz a14 (([] : List ByteArray)).length 0 (flat e_S ([] : List ByteArray)) :: row e_S.T e_S.sz a10 (([] : List ByteArray)).length 0 (flat e_S ([] : List ByteArray)) :: blk b2 (qzRCopy2) :: blk b1 (qzRCopy1 t) :: F) (fun w S => S.perm List.perm_append_comm) ?_
     refine l_f2 ?_
     refine o_append e_S_ok rfl rfl rfl Try.underlying27 (TxR.c (TxR.c (TxR.c (TxR.c (TxR.c T_t))))).rr (by show (_ + _) * _ ≤ _; simp only [List.length_nil]; omega) (by simp only [List.length_nil]; omega) fun a13 c13 => ?_
     refine l_eq (t := 13) (v' := .slice a13 (t.f_Reads.xs).length c13) rfl (by rfl) ?_
     refine l_conv (L' := row e_S.T e_S.sz a13 (t.f_Reads.xs).length c13 (flat e_S t.f_Reads.xs) :: _) (fun w S => by exact S) ?_
     refine l_nil ?_
     refine q_conv (L' := (blk b2 (qzRCopy2) :: blk b1 (qzRCopy1 t) :: F) ++ [row e_S.T e_S.sz a13 (t.f_Reads.xs).length c13 (flat e_S t.f_Reads.xs), blk b3 (qzRCopy2), row e_S.T e_S.sz a14 (([] : List ByteArray)).length 0 (flat e_S ([] : List ByteArray))]) (fun w S => S.perm (List.perm_append_comm (l₁ := [row e_S.T e_S.sz a13 (t.f_Reads.xs).length c13 (flat e_S t.f_Reads.xs), blk b3 (qzRCopy2), row e_S.T e_S.sz a14 (([] : List ByteArray)).length 0 (flat e_S ([] : List ByteArray))]) (l₂ := blk b2 (qzRCopy2) :: blk b1 (qzRCopy1 t) :: F))) ?_
     refine h_next ?_
     refine h_one 11 rfl (by kernel_rfl) ?_
     refine l_conv (L' := row e_S.T e_S.sz a13 (t.f_Reads.xs).length c13 (flat e_S t.f_Reads.xs) :: blk b3 (qzRCopy2) :: row e_S.T e_S.sz a14 (([] : List ByteArray)).length 0 (flat e_S ([] : List ByteArray)) :: blk b2 (qzRCopy2) :: blk b1 (qzRCopy1 t) :: F) (fun w S => S.perm List.perm_append_comm) ?_
     refine l_f2 ?_
     refine o_append e_S_ok rfl rfl rfl Try.underlying27 (TxR.c (TxR.c (TxR.c (TxR.c (TxR.c T_t))))).rw (by show (_ + _) * _ ≤ _; simp only [List.length_nil]; omega) (by simp only [List.length_nil]; omega) fun a17 c17 => ?_
     refine l_eq (t := 17) (v' := .slice a17 (t.f_Writes.xs).length c17) rfl (by rfl) ?_
     refine l_conv (L' := row e_S.T e_S.sz a17 (t.f_Writes.xs).length c17 (flat e_S t.f_Writes.xs) :: _) (fun w S => by exact S) ?_
     refine l_nil ?_
     refine q_conv (L' := (blk b2 (qzRCopy2) :: blk b1 (qzRCopy1 t) :: F) ++ [row e_S.T e_S.sz a17 (t.f_Writes.xs).length c17 (flat e_S t.f_Writes.xs), row e_S.T e_S.sz a13 (t.f_Reads.xs).length c13 (flat e_S t.f_Reads.xs), blk b3 (qzRCopy2)]) (fun w S => S.perm (List.perm_append_comm (l₁ := [row e_S.T e_S.sz a17 (t.f_Writes.xs).length c17 (flat e_S t.f_Writes.xs), row e_S.T e_S.sz a13 (t.f_Reads.xs).length c13 (flat e_S t.f_Reads.xs), blk b3 (qzRCopy2)]) (l₂ := blk b2 (qzRCopy2) :: blk b1 (qzRCopy1 t) :: F))) ?_
     refine h_next ?_
     refine h_take 12 rfl rfl (by kernel_rfl) (by kernel_rfl) (by kernel_rfl) (fun L0 => v_build rfl sp30 ti30 rfl ((fill_cons (cells' := [.int .i64 t.f_Kind, .slice none 0 0, .slice none 0 0, .slice none 0 0, .int .i64 0]) rfl rfl rfl rfl (fill_cons (cells' := [.int .i64 t.f_Kind, .slice none 0 0, .slice none 0 0, .slice none 0 0, .int .i64 t.f_To]) rfl rfl rfl rfl (fill_cons (cells' := [.int .i64 t.f_Kind, .slice a13 (t.f_Reads.xs).length c13, .slice none 0 0, .slice none 0 0, .int .i64 t.f_To]) rfl rfl rfl rfl (fill_cons (cells' := [.int .i64 t.f_Kind, .slice a13 (t.f_Reads.xs).length c13, .slice a17 (t.f_Writes.xs).length c17, .slice none 0 0, .int .i64 t.f_To]) rfl rfl rfl rfl fill_nil)))))) ?_
     refine h_one 14 rfl (by kernel_rfl) ?_
     refine l_conv (L' := row e_S.T e_S.sz a17 (t.f_Writes.xs).length c17 (flat e_S t.f_Writes.xs) :: row e_S.T e_S.sz a13 (t.f_Reads.xs).length c13 (flat e_S t.f_Reads.xs) :: blk b3 (qzRCopy2) :: blk b2 (qzRCopy2) :: blk b1 (qzRCopy1 t) :: F) (fun w S => S.perm List.perm_append_comm) ?_
     refine l_f2 ?_
     refine o_storen rfl rfl ti30 rfl rfl rfl rfl ?_
     refine l_nil ?_
     refine q_conv (L' := (blk b2 (qzRCopy2) :: blk b1 (qzRCopy1 t) :: F) ++ [blk b3 (qzRCopy3 t a13 c13 a17 c17), row e_S.T e_S.sz a17 (t.f_Writes.xs).length c17 (flat e_S t.f_Writes.xs), row e_S.T e_S.sz a13 (t.f_Reads.xs).length c13 (flat e_S t.f_Reads.xs)]) (fun w S => S.perm (List.perm_append_comm (l₁ := [blk b3 (qzRCopy3 t a13 c13 a17 c17), row e_S.T e_S.sz a17 (t.f_Writes.xs).length c17 (flat e_S t.f_Writes.xs), row e_S.T e_S.sz a13 (t.f_Reads.xs).length c13 (flat e_S t.f_Reads.xs)]) (l₂ := blk b2 (qzRCopy2) :: blk b1 (qzRCopy1 t) :: F))) ?_
     refine h_next ?_
     refine h_done (by kernel_rfl) ?_
     refine q_conv (L' := blk b3 (qzRCopy3 t a13 c13 a17 c17) :: row e_S.T e_S.sz a17 (t.f_Writes.xs).length c17 (flat e_S t.f_Writes.xs) :: row e_S.T e_S.sz a13 (t.f_Reads.xs).length c13 (flat e_S t.f_Reads.xs) :: blk b2 (qzRCopy2) :: blk b1 (qzRCopy1 t) :: F) (fun w S => S.perm List.perm_append_comm) ?_
     exact q_mid (b3, a13, c13, a17, c17, a10, a14) (by trivial) ⟨(by first | rfl | exact vint (by omega)), (by first | rfl | exact vint (by omega)), (by first | rfl | exact vint (by omega)), (by first | rfl | exact vint (by omega)), (by first | rfl | exact vint (by omega)), (by first | rfl | exact vint (by omega)), (by first | rfl | exact vint (by omega)), (by first | rfl | exact vint (by omega)), (by first | rfl | exact vint (by omega)), (by first | rfl | exact vint (by omega)), (by first | rfl | exact vint (by omega)), (by first | rfl | exact vint (by omega)), (by first | rfl | exact vint (by omega)), (by first | rfl | exact vint (by omega)), (by first | rfl | exact vint (by omega)), (by first | rfl | exact vint (by omega)), (by first | rfl | exact vint (by omega)), trivial⟩ (fun w S => S)
   · -- 13 comes first
    refine l_conv (L' := row e_S.T e_S.sz a10 (([] : List ByteArray)).length 0 (flat e_S ([] : List ByteArray)) :: blk b2 (qzRCopy2) :: blk b1 (qzRCopy1 t) :: F) (fun w S => S.perm List.perm_append_comm) ?_
    refine o_alloc rfl ti30 fun b3 => ?_
    refine l_nil ?_
    refine q_conv (L' := (blk b2 (qzRCopy2) :: blk b1 (qzRCopy1 t) :: F) ++ [blk b3 (qzRCopy2), row e_S.T e_S.sz a10 (([] : List ByteArray)).length 0 (flat e_S ([] : List ByteArray))]) (fun w S => S.perm (List.perm_append_comm (l₁ := [blk b3 (qzRCopy2), row e_S.T e_S.sz a10 (([] : List ByteArray)).length 0 (flat e_S ([] : List ByteArray))]) (l₂ := blk b2 (qzRCopy2) :: blk b1 (qzRCopy1 t) :: F))) ?_
    refine h_next ?_
    refine h_many (is := [7, 8]) (by kernel_rfl) (by decide) (forall_cons ⟨_, rfl, ?_⟩ (forall_cons ⟨_, rfl, ?_⟩ forall_nil))
    · -- 7 comes first
     refine l_conv (L' := blk b3 (qzRCopy2) :: row e_S.T e_S.sz a10 (([] : List ByteArray)).length 0 (flat e_S ([] : List ByteArray)) :: blk b2 (qzRCopy2) :: blk b1 (qzRCopy1 t) :: F) (fun w S => S.perm List.perm_append_comm) ?_
     refine l_f1 ?_
     refine o_append e_S_ok rfl rfl rfl Try.underlying27 (TxR.c (TxR.c (TxR.c (TxR.c T_t)))).rr (by show (_ + _) * _ ≤ _; simp only [List.length_nil]; omega) (by simp only [List.length_nil]; omega) fun a13 c13 => ?_
     refine l_eq (t := 13) (v' := .slice a13 (t.f_Reads.xs).length c13) rfl (by rfl) ?_
     refine l_conv (L' := row e_S.T e_S.sz a13 (t.f_Reads.xs).length c13 (flat e_S t.f_Reads.xs) :: _) (fun w S => by exact S) ?_
     refine l_nil ?_
     refine q_conv (L' := (blk b2 (qzRCopy2) :: blk b1 (qzRCopy1 t) :: F) ++ [row e_S.T e_S.sz a13 (t.f_Reads.xs).length c13 (flat e_S t.f_Reads.xs), blk b3 (qzRCopy2)]) (fun w S => S.perm (List.perm_append_comm (l₁ := [row e_S.T e_S.sz a13 (t.f_Reads.xs).length c13 (flat e_S t.f_Reads.xs), blk b3 (qzRCopy2)]) (l₂ := blk b2 (qzRCopy2) :: blk b1 (qzRCopy1 t) :: F))) ?_
     refine h_next ?_
     refine h_one 8 rfl (by kernel_rfl) ?_
     refine l_conv (L' := row e_S.T e_S.sz a13 (t.f_Reads.xs).length c13 (flat e_S t.f_Reads.xs) :: blk b3 (qzRCopy2) :: blk b2 (qzRCopy2) :: blk b1 (qzRCopy1 t) :: F) (fun w S => S.perm List.perm_append_comm) ?_
     refine o_lit e_S_ok rfl Try.underlying27 rfl rfl rfl (lit_ok rfl) ([] : List ByteArray) rfl rfl fun a14 => ?_
     refine l_nil ?_
     refine q_conv (L' := (blk b2 (qzRCopy2) :: blk b1 (qzRCopy1 t) :: F) ++ [row e_S.T e_S.sz a14 (([] : List ByteArray)).length 0 (flat e_S ([] : List ByteArray)), row e_S.T e_S.sz a13 (t.f_Reads.xs).length c13 (flat e_S t.f_Reads.xs), blk b3 (qzRCopy2)]) (fun w S => S.perm (List.perm_append_comm (l₁ := [row e_S.T e_S.sz a14 (([] : List ByteArray)).length 0 (flat e_S ([] : List ByteArray)), row e_S.T e_S.sz a13 (t.f_Reads.xs).length c13 (flat e_S t.f_Reads.xs), blk b3 (qzRCopy2)]) (l₂ := blk b2 (qzRCopy2) :: blk b1 (qzRCopy1 t) :: F))) ?_
     refine h_next ?_
     refine h_one 11 rfl (by kernel_rfl) ?_
     refine l_conv (L' := row e_S.T e_S.sz a14 (([] : List ByteArray)).length 0 (flat e_S ([] : List ByteArray)) :: row e_S.T e_S.sz a13 (t.f_Reads.xs).length c13 (flat e_S t.f_Reads.xs) :: blk b3 (qzRCopy2) :: blk b2 (qzRCopy2) :: blk b1 (qzRCopy1 t) :: F) (fun w S => S.perm List.perm_append_comm) ?_
     refine o_append e_S_ok rfl rfl rfl Try.underlying27 (TxR.c (TxR.c (TxR.c (TxR.c (TxR.c T_t))))).rw (by show (_ + _) * _ ≤ _; simp only [List.length_nil]; omega) (by simp only [List.length_nil]; omega) fun a17 c17 => ?_
     refine l_eq (t := 17) (v' := .slice a17 (t.f_Writes.xs).length c17) rfl (by rfl) ?_
     refine l_conv (L' := row e_S.T e_S.sz a17 (t.f_Writes.xs).length c17 (flat e_S t.f_Writes.xs) :: _) (fun w S => by exact S) ?_
     refine l_nil ?_
     refine q_conv (L' := (blk b2 (qzRCopy2) :: blk b1 (qzRCopy1 t) :: F) ++ [row e_S.T e_S.sz a17 (t.f_Writes.xs).length c17 (flat e_S t.f_Writes.xs), row e_S.T e_S.sz a13 (t.f_Reads.xs).length c13 (flat e_S t.f_Reads.xs), blk b3 (qzRCopy2)]) (fun w S => S.perm (List.perm_append_comm (l₁ := [row e_S.T e_S.sz a17 (t.f_Writes.xs).length c17 (flat e_S t.f_Writes.xs), row e_S.T e_S.sz a13 (t.f_Reads.xs).length c13 (flat e_S t.f_Reads.xs), blk b3 (qzRCopy2)]) (l₂ := blk b2 (qzRCopy2) :: blk b1 (qzRCopy1 t) :: F))) ?_
     refine h_next ?_
     refine h_take 12 rfl rfl (by kernel_rfl) (by kernel_rfl) (by kernel_rfl) (fun L0 => v_build rfl sp30 ti30 rfl ((fill_cons (cells' := [.int .i64 t.f_Kind, .slice none 0 0, .slice none 0 0, .slice none 0 0, .int .i64 0]) rfl rfl rfl rfl (fill_cons (cells' := [.int .i64 t.f_Kind, .slice none 0 0, .slice none 0 0, .slice none 0 0, .int .i64 t.f_To]) rfl rfl rfl rfl (fill_cons (cells' := [.int .i64 t.f_Kind, .slice a13 (t.f_Reads.xs).length c13, .slice none 0 0, .slice none 0 0, .int .i64 t.f_To]) rfl rfl rfl rfl (fill_cons (cells' := [.int .i64 t.f_Kind, .slice a13 (t.f_Reads.xs).length c13, .slice a17 (t.f_Writes.xs).length c17, .slice none 0 0, .int .i64 t.f_To]) rfl rfl rfl rfl fill_nil)))))) ?_
     refine h_one 14 rfl (by kernel_rfl) ?_
     refine l_conv (L' := row e_S.T e_S.sz a17 (t.f_Writes.xs).length c17 (flat e_S t.f_Writes.xs) :: row e_S.T e_S.sz a13 (t.f_Reads.xs).length c13 (flat e_S t.f_Reads.xs) :: blk b3 (qzRCopy2) :: blk b2 (qzRCopy2) :: blk b1 (qzRCopy1 t) :: F) (fun w S => S.perm List.perm_append_comm) ?_
     refine l_f2 ?_
     refine o_storen rfl rfl ti30 rfl rfl rfl rfl ?_
     refine l_nil ?_
     refine q_conv (L' := (blk b2 (qzRCopy2) :: blk b1 (qzRCopy1 t) :: F) ++ [blk b3 (qzRCopy3 t a13 c13 a17 c17), row e_S.T e_S.sz a17 (t.f_Writes.xs).length c17 (flat e_S t.f_Writes.xs), row e_S.T e_S.sz a13 (t.f_Reads.xs).length c13 (flat e_S t.f_Reads.xs)]) (fun w S => S.perm (List.perm_append_comm (l₁ := [blk b3 (qzRCopy3 t a13 c13 a17 c17), row e_S.T e_S.sz a17 (t.f_Writes.xs).length c17 (flat e_S t.f_Writes.xs), row e_S.T e_S.sz a13 (t.f_Reads.xs).length c13 (flat e_S t.f_Reads.xs)]) (l₂ := blk b2 (qzRCopy2) :: blk b1 (qzRCopy1 t) :: F))) ?_
     refine h_next ?_
     refine h_done (by kernel_rfl) ?_
     refine q_conv (L' := blk b3 (qzRCopy3 t a13 c13 a17 c17) :: row e_S.T e_S.sz a17 (t.f_Writes.xs).length c17 (flat e_S t.f_Writes.xs) :: row e_S.T e_S.sz a13 (t.f_Reads.xs).length c13 (flat e_S t.f_Reads.xs) :: blk b2 (qzRCopy2) :: blk b1 (qzRCopy1 t) :: F) (fun w S => S.perm List.perm_append_comm) ?_
     exact q_mid (b3, a13, c13, a17, c17, a10, a14) (by trivial) ⟨(by first | rfl | exact vint (by omega)), (by first | rfl | exact vint (by omega)), (by first | rfl | exact vint (by omega)), (by first | rfl | exact vint (by omega)), (by first | rfl | exact vint (by omega)), (by first | rfl | exact vint (by omega)), (by first | rfl | exact vint (by omega)), (by first | rfl | exact vint (by omega)), (by first | rfl | exact vint (by omega)), (by first | rfl | exact vint (by omega)), (by first | rfl | exact vint (by omega)), (by first | rfl | exact vint (by omega)), (by first | rfl | exact vint (by omega)), (by first | rfl | exact vint (by omega)), (by first | rfl | exact vint (by omega)), (by first | rfl | exact vint (by omega)), (by first | rfl | exact vint (by omega)), trivial⟩ (fun w S => S)
    · -- 8 comes first
     refine l_conv (L' := blk b3 (qzRCopy2) :: row e_S.T e_S.sz a10 (([] : List ByteArray)).length 0 (flat e_S ([] : List ByteArray)) :: blk b2 (qzRCopy2) :: blk b1 (qzRCopy1 t) :: F) (fun w S => S.perm List.perm_append_comm) ?_
     refine o_lit e_S_ok rfl Try.underlying27 rfl rfl rfl (lit_ok rfl) ([] : List ByteArray) rfl rfl fun a14 => ?_
     refine l_nil ?_
     refine q_conv (L' := (blk b2 (qzRCopy2) :: blk b1 (qzRCopy1 t) :: F) ++ [row e_S.T e_S.sz a14 (([] : List ByteArray)).length 0 (flat e_S ([] : List ByteArray)), blk b3 (qzRCopy2), row e_S.T e_S.sz a10 (([] : List ByteArray)).length 0 (flat e_S ([] : List ByteArray))]) (fun w S => S.perm (List.perm_append_comm (l₁ := [row e_S.T e_S.sz a14 (([] : List ByteArray)).length 0 (flat e_S ([] : List ByteArray)), blk b3 (qzRCopy2), row e_S.T e_S.sz a10 (([] : List ByteArray)).length 0 (flat e_S ([] : List ByteArray))]) (l₂ := blk b2 (qzRCopy2) :: blk b1 (qzRCopy1 t) :: F))) ?_
     refine h_next ?_
     refine h_one 7 rfl (by kernel_rfl) ?_
     refine l_conv (L' := row e_S.T e_S.sz a14 (([] : List ByteArray)).length 0 (flat e_S ([] : List ByteArray)) :: blk b3 (qzRCopy2) :: row e_S.T e_S.sz a10 (([] : List ByteArray)).length 0 (flat e_S ([] : List ByteArray)) :: blk b2 (qzRCopy2) :: blk b1 (qzRCopy1 t) :: F) (fun w S => S.perm List.perm_append_comm) ?_
     refine l_f2 ?_
     refine o_append e_S_ok rfl rfl rfl Try.underlying27 (TxR.c (TxR.c (TxR.c (TxR.c (TxR.c T_t))))).rr (by show (_ + _) * _ ≤ _; simp only [List.length_nil]; omega) (by simp only [List.length_nil]; omega) fun a13 c13 => ?_
     refine l_eq (t := 13) (v' := .slice a13 (t.f_Reads.xs).length c13) rfl (by rfl) ?_
     refine l_conv (L' := row e_S.T e_S.sz a13 (t.f_Reads.xs).length c13 (flat e_S t.f_Reads.xs) :: _) (fun w S => by exact S) ?_
     refine l_nil ?_
     refine q_conv (L' := (blk b2 (qzRCopy2) :: blk b1 (qzRCopy1 t) :: F) ++ [row e_S.T e_S.sz a13 (t.f_Reads.xs).length c13 (flat e_S t.f_Reads.xs), row e_S.T e_S.sz a14 (([] : List ByteArray)).length 0 (flat e_S ([] : List ByteArray)), blk b3 (qzRCopy2)]) (fun w S => S.perm (List.perm_append_comm (l₁ := [row e_S.T e_S.sz a13 (t.f_Reads.xs).length c13 (flat e_S t.f_Reads.xs), row e_S.T e_S.sz a14 (([] : List ByteArray)).length 0 (flat e_S ([] : List ByteArray)), blk b3 (qzRCopy2)]) (l₂ := blk b2 (qzRCopy2) :: blk b1 (qzRCopy1 t) :: F))) ?_
     refine h_next ?_
     refine h_one 11 rfl (by kernel_rfl) ?_
     refine l_conv (L' := row e_S.T e_S.sz a13 (t.f_Reads.xs).length c13 (flat e_S t.f_Reads.xs) :: row e_S.T e_S.sz a14 (([] : List ByteArray)).length 0 (flat e_S ([] : List ByteArray)) :: blk b3 (qzRCopy2) :: blk b2 (qzRCopy2) :: blk b1 (qzRCopy1 t) :: F) (fun w S => S.perm List.perm_append_comm) ?_
     refine l_f1 ?_
     refine o_append e_S_ok rfl rfl rfl Try.underlying27 (TxR.c (TxR.c (TxR.c (TxR.c (TxR.c T_t))))).rw (by show (_ + _) * _ ≤ _; simp only [List.length_nil]; omega) (by simp only [List.length_nil]; omega) fun a17 c17 => ?_
     refine l_eq (t := 17) (v' := .slice a17 (t.f_Writes.xs).length c17) rfl (by rfl) ?_
     refine l_conv (L' := row e_S.T e_S.sz a17 (t.f_Writes.xs).length c17 (flat e_S t.f_Writes.xs) :: _) (fun w S => by exact S) ?_
     refine l_nil ?_
     refine q_conv (L' := (blk b2 (qzRCopy2) :: blk b1 (qzRCopy1 t) :: F) ++ [row e_S.T e_S.sz a17 (t.f_Writes.xs).length c17 (flat e_S t.f_Writes.xs), row e_S.T e_S.sz a13 (t.f_Reads.xs).length c13 (flat e_S t.f_Reads.xs), blk b3 (qzRCopy2)]) (fun w S => S.perm (List.perm_append_comm (l₁ := [row e_S.T e_S.sz a17 (t.f_Writes.xs).length c17 (flat e_S t.f_Writes.xs), row e_S.T e_S.sz a13 (t.f_Reads.xs).length c13 (flat e_S t.f_Reads.xs), blk b3 (qzRCopy2)]) (l₂ := blk b2 (qzRCopy2) :: blk b1 (qzRCopy1 t) :: F))) ?_
     refine h_next ?_
     refine h_take 12 rfl rfl (by kernel_rfl) (by kernel_rfl) (by kernel_rfl) (fun L0 => v_build rfl sp30 ti30 rfl ((fill_cons (cells' := [.int .i64 t.f_Kind, .slice none 0 0, .slice none 0 0, .slice none 0 0, .int .i64 0]) rfl rfl rfl rfl (fill_cons (cells' := [.int .i64 t.f_Kind, .slice none 0 0, .slice none 0 0, .slice none 0 0, .int .i64 t.f_To]) rfl rfl rfl rfl (fill_cons (cells' := [.int .i64 t.f_Kind, .slice a13 (t.f_Reads.xs).length c13, .slice none 0 0, .slice none 0 0, .int .i64 t.f_To]) rfl rfl rfl rfl (fill_cons (cells' := [.int .i64 t.f_Kind, .slice a13 (t.f_Reads.xs).length c13, .slice a17 (t.f_Writes.xs).length c17, .slice none 0 0, .int .i64 t.f_To]) rfl rfl rfl rfl fill_nil)))))) ?_
     refine h_one 14 rfl (by kernel_rfl) ?_
     refine l_conv (L' := row e_S.T e_S.sz a17 (t.f_Writes.xs).length c17 (flat e_S t.f_Writes.xs) :: row e_S.T e_S.sz a13 (t.f_Reads.xs).length c13 (flat e_S t.f_Reads.xs) :: blk b3 (qzRCopy2) :: blk b2 (qzRCopy2) :: blk b1 (qzRCopy1 t) :: F) (fun w S => S.perm List.perm_append_comm) ?_
     refine l_f2 ?_
     refine o_storen rfl rfl ti30 rfl rfl rfl rfl ?_
     refine l_nil ?_
     refine q_conv (L' := (blk b2 (qzRCopy2) :: blk b1 (qzRCopy1 t) :: F) ++ [blk b3 (qzRCopy3 t a13 c13 a17 c17), row e_S.T e_S.sz a17 (t.f_Writes.xs).length c17 (flat e_S t.f_Writes.xs), row e_S.T e_S.sz a13 (t.f_Reads.xs).length c13 (flat e_S t.f_Reads.xs)]) (fun w S => S.perm (List.perm_append_comm (l₁ := [blk b3 (qzRCopy3 t a13 c13 a17 c17), row e_S.T e_S.sz a17 (t.f_Writes.xs).length c17 (flat e_S t.f_Writes.xs), row e_S.T e_S.sz a13 (t.f_Reads.xs).length c13 (flat e_S t.f_Reads.xs)]) (l₂ := blk b2 (qzRCopy2) :: blk b1 (qzRCopy1 t) :: F))) ?_
     refine h_next ?_
     refine h_done (by kernel_rfl) ?_
     refine q_conv (L' := blk b3 (qzRCopy3 t a13 c13 a17 c17) :: row e_S.T e_S.sz a17 (t.f_Writes.xs).length c17 (flat e_S t.f_Writes.xs) :: row e_S.T e_S.sz a13 (t.f_Reads.xs).length c13 (flat e_S t.f_Reads.xs) :: blk b2 (qzRCopy2) :: blk b1 (qzRCopy1 t) :: F) (fun w S => S.perm List.perm_append_comm) ?_
     exact q_mid (b3, a13, c13, a17, c17, a10, a14) (by trivial) ⟨(by first | rfl | exact vint (by omega)), (by first | rfl | exact vint (by omega)), (by first | rfl | exact vint (by omega)), (by first | rfl | exact vint (by omega)), (by first | rfl | exact vint (by omega)), (by first | rfl | exact vint (by omega)), (by first | rfl | exact vint (by omega)), (by first | rfl | exact vint (by omega)), (by first | rfl | exact vint (by omega)), (by first | rfl | exact vint (by omega)), (by first | rfl | exact vint (by omega)), (by first | rfl | exact vint (by omega)), (by first | rfl | exact vint (by omega)), (by first | rfl | exact vint (by omega)), (by first | rfl | exact vint (by omega)), (by first | rfl | exact vint (by omega)), (by first | rfl | exact vint (by omega)), trivial⟩ (fun w S => S)
  · -- 8 comes first
   refine l_conv (L' := blk b2 (qzRCopy2) :: blk b1 (qzRCopy1 t) :: F) (fun w S => S.perm List.perm_append_comm) ?_
   refine o_lit e_S_ok rfl Try.underlying27 rfl rfl rfl (lit_ok rfl) ([] : List ByteArray) rfl rfl fun a14 => ?_
   refine l_nil ?_
   refine q_conv (L' := (blk b2 (qzRCopy2) :: blk b1 (qzRCopy1 t) :: F) ++ [row e_S.T e_S.sz a14 (([] : List ByteArray)).length 0 (flat e_S ([] : List ByteArray))]) (fun w S => S.perm (List.perm_append_comm (l₁ := [row e_S.T e_S.sz a14 (([] : List ByteArray)).length 0 (flat e_S ([] : List ByteArray))]) (l₂ := blk b2 (qzRCopy2) :: blk b1 (qzRCopy1 t) :: F))) ?_
   refine h_next ?_
   refine h_many (is := [4, 13]) (by kernel_rfl) (by decide) (forall_cons ⟨_, rfl, ?_⟩ (forall_cons ⟨_, rfl, ?_⟩ forall_nil))
   · -- 4 comes first
    refine l_conv (L' := row e_S.T e_S.sz a14 (([] : List ByteArray)).length 0 (flat e_S ([] : List ByteArray)) :: blk b2 (qzRCopy2) :: blk b1 (qzRCopy1 t) :: F) (fun w S => S.perm List.perm_append_comm) ?_
    refine o_lit e_S_ok rfl Try.underlying27 rfl rfl rfl (lit_ok rfl) ([] : List ByteArray) rfl rfl fun a10 => ?_
    refine l_nil ?_
    refine q_conv (L' := (blk b2 (qzRCopy2) :: blk b1 (qzRCopy1 t) :: F) ++ [row e_S.T e_S.sz a10 (([] : List ByteArray)).length 0 (flat e_S ([] : List ByteArray)), row e_S.T e_S.sz a14 (([] : List ByteArray)).length 0 (flat e_S ([] : List ByteArray))]) (fun w S => S.perm (List.perm_append_comm (l₁ := [row e_S.T e_S.sz a10 (([] : List ByteArray)).length 0 (flat e_S ([] : List ByteArray)), row e_S.T e_S.sz a14 (([] : List ByteArray)).length 0 (flat e_S ([] : List ByteArray))]) (l₂ := blk b2 (qzRCopy2) :: blk b1 (qzRCopy1 t) :: F))) ?_
    refine h_next ?_
    refine h_many (is := [7, 13]) (by kernel_rfl) (by decide) (forall_cons ⟨_, rfl, ?_⟩ (forall_cons ⟨_, rfl, ?_⟩ forall_nil))
    · -- 7 comes first
     refine l_conv (L' := row e_S.T e_S.sz a10 (([] : List ByteArray)).length 0 (flat e_S ([] : List ByteArray)) :: row e_S.T e_S.sz a14 (([] : List ByteArray)).length 0 (flat e_S ([] : List ByteArray)) :: blk b2 (qzRCopy2) :: blk b1 (qzRCopy1 t) :: F) (fun w S => S.perm List.perm_append_comm) ?_
     refine o_append e_S_ok rfl rfl rfl Try.underlying27 (TxR.c (TxR.c (TxR.c (TxR.c T_t)))).rr (by show (_ + _) * _ ≤ _; simp only [List.length_nil]; omega) (by simp only [List.length_nil]; omega) fun a13 c13 => ?_
     refine l_eq (t := 13) (v' := .slice a13 (t.f_Reads.xs).length c13) rfl (by rfl) ?_
     refine l_conv (L' := row e_S.T e_S.sz a13 (t.f_Reads.xs).length c13 (flat e_S t.f_Reads.xs) :: _) (fun w S => by exact S) ?_
     refine l_nil ?_
     refine q_conv (L' := (blk b2 (qzRCopy2) :: blk b1 (qzRCopy1 t) :: F) ++ [row e_S.T e_S.sz a13 (t.f_Reads.xs).length c13 (flat e_S t.f_Reads.xs), row e_S.T e_S.sz a14 (([] : List ByteArray)).length 0 (flat e_S ([] : List ByteArray))]) (fun w S => S.perm (List.perm_append_comm (l₁ := [row e_S.T e_S.sz a13 (t.f_Reads.xs).length c13 (flat e_S t.f_Reads.xs), row e_S.T e_S.sz a14 (([] : List ByteArray)).length 0 (flat e_S ([] : List ByteArray))]) (l₂ := blk b2 (qzRCopy2) :: blk b1 (qzRCopy1 t) :: F))) ?_
     refine h_next ?_
     refine h_many (is := [11, 13]) (by kernel_rfl) (by decide) (forall_cons ⟨_, rfl, ?_⟩ (forall_cons ⟨_, rfl, ?_⟩ forall_nil))
     · -- 11 comes first
      refine l_conv (L' := row e_S.T e_S.sz a13 (t.f_Reads.xs).length c13 (flat e_S t.f_Reads.xs) :: row e_S.T e_S.sz a14 (([] : List ByteArray)).length 0 (flat e_S ([] : List ByteArray)) :: blk b2 (qzRCopy2) :: blk b1 (qzRCopy1 t) :: F) (fun w S => S.perm List.perm_append_comm) ?_
      refine l_f1 ?_
      refine o_append e_S_ok rfl rfl rfl Try.underlying27 (TxR.c (TxR.c (TxR.c (TxR.c T_t)))).rw (by show (_ + _) * _ ≤ _; simp only [List.length_nil]; omega) (by simp only [List.length_nil]; omega) fun a17 c17 => ?_
      refine l_eq (t := 17) (v' := .slice a17 (t.f_Writes.xs).length c17) rfl (by rfl) ?_
      refine l_conv (L' := row e_S.T e_S.sz a17 (t.f_Writes.xs).length c17 (flat e_S t.f_Writes.xs) :: _) (fun w S => by exact S) ?_
      refine l_nil ?_
      refine q_conv (L' := (blk b2 (qzRCopy2) :: blk b1 (qzRCopy1 t) :: F) ++ [row e_S.T e_S.sz a17 (t.f_Writes.xs).length c17 (flat e_S t.f_Writes.xs), row e_S.T e_S.sz a13 (t.f_Reads.xs).length c13 (flat e_S t.f_Reads.xs)]) (fun w S => S.perm (List.perm_append_comm (l₁ := [row e_S.T e_S.sz a17 (t.f_Writes.xs).length c17 (flat e_S t.f_Writes.xs), row e_S.T e_S.sz a13 (t.f_Reads.xs).length c13 (flat e_S t.f_Reads.xs)]) (l₂ := blk b2 (qzRCopy2) :: blk b1 (qzRCopy1 t) :: F))) ?_
      refine h_next ?_
      refine h_take 12 rfl rfl (by kernel_rfl) (by kernel_rfl) (by kernel_rfl) (fun L0 => v_build rfl sp30 ti30 rfl ((fill_cons (cells' := [.int .i64 t.f_Kind, .slice none 0 0, .slice none 0 0, .slice none 0 0, .int .i64 0]) rfl rfl rfl rfl (fill_cons (cells' := [.int .i64 t.f_Kind, .slice none 0 0, .slice none 0 0, .slice none 0 0, .int .i64 t.f_To]) rfl rfl rfl rfl (fill_cons (cells' := [.int .i64 t.f_Kind, .slice a13 (t.f_Reads.xs).length c13, .slice none 0 0, .slice none 0 0, .int .i64 t.f_To]) rfl rfl rfl rfl (fill_cons (cells' := [.int .i64 t.f_Kind, .slice a13 (t.f_Reads.xs).length c13, .slice a17 (t.f_Writes.xs).length c17, .slice none 0 0, .int .i64 t.f_To]) rfl rfl rfl rfl fill_nil)))))) ?_
      refine h_one 13 rfl (by kernel_rfl) ?_
      refine l_conv (L' := row e_S.T e_S.sz a17 (t.f_Writes.xs).length c17 (flat e_S t.f_Writes.xs) :: row e_S.T e_S.sz a13 (t.f_Reads.xs).length c13 (flat e_S t.f_Reads.xs) :: blk b2 (qzRCopy2) :: blk b1 (qzRCopy1 t) :: F) (fun w S => S.perm List.perm_append_comm) ?_
      refine o_alloc rfl ti30 fun b3 => ?_
      refine l_nil ?_
      refine q_conv (L' := (blk b2 (qzRCopy2) :: blk b1 (qzRCopy1 t) :: F) ++ [blk b3 (qzRCopy2), row e_S.T e_S.sz a17 (t.f_Writes.xs).length c17 (flat e_S t.f_Writes.xs), row e_S.T e_S.sz a13 (t.f_Reads.xs).length c13 (flat e_S t.f_Reads.xs)]) (fun w S => S.perm (List.perm_append_comm (l₁ := [blk b3 (qzRCopy2), row e_S.T e_S.sz a17 (t.f_Writes.xs).length c17 (flat e_S t.f_Writes.xs), row e_S.T e_S.sz a13 (t.f_Reads.xs).length c13 (flat e_S t.f_Reads.xs)]) (l₂ := blk b2 (qzRCopy2) :: blk b1 (qzRCopy1 t) :: F))) ?_
      refine h_next ?_
      refine h_one 14 rfl (by kernel_rfl) ?_
      refine l_conv (L' := blk b3 (qzRCopy2) :: row e_S.T e_S.sz a17 (t.f_Writes.xs).length c17 (flat e_S t.f_Writes.xs) :: row e_S.T e_S.sz a13 (t.f_Reads.xs).length c13 (flat e_S t.f_Reads.xs) :: blk b2 (qzRCopy2) :: blk b1 (qzRCopy1 t) :: F) (fun w S => S.perm List.perm_append_comm) ?_
      refine o_storen rfl rfl ti30 rfl rfl rfl rfl ?_
      refine l_nil ?_
      refine q_conv (L' := (blk b2 (qzRCopy2) :: blk b1 (qzRCopy1 t) :: F) ++ [blk b3 (qzRCopy3 t a13 c13 a17 c17), row e_S.T e_S.sz a17 (t.f_Writes.xs).length c17 (flat e_S t.f_Writes.xs), row e_S.T e_S.sz a13 (t.f_Reads.xs).length c13 (flat e_S t.f_Reads.xs)]) (fun w S => S.perm (List.perm_append_comm (l₁ := [blk b3 (qzRCopy3 t a13 c13 a17 c17), row e_S.T e_S.sz a17 (t.f_Writes.xs).length c17 (flat e_S t.f_Writes.xs), row e_S.T e_S.sz a13 (t.f_Reads.xs).length c13 (flat e_S t.f_Reads.xs)]) (l₂ := blk b2 (qzRCopy2) :: blk b1 (qzRCopy1 t) :: F))) ?_
      refine h_next ?_
      refine h_done (by kernel_rfl) ?_
      refine q_conv (L' := blk b3 (qzRCopy3 t a13 c13 a17 c17) :: row e_S.T e_S.sz a17 (t.f_Writes.xs).length c17 (flat e_S t.f_Writes.xs) :: row e_S.T e_S.sz a13 (t.f_Reads.xs).length c13 (flat e_S t.f_Reads.xs) :: blk b2 (qzRCopy2) :: blk b1 (qzRCopy1 t) :: F) (fun w S => S.perm List.perm_append_comm) ?_
      exact q_mid (b3, a13, c13, a17, c17, a10, a14) (by trivial) ⟨(by first | rfl | exact vint (by omega)), (by first | rfl | exact vint (by omega)), (by first | rfl | exact vint (by omega)), (by first | rfl | exact vint (by omega)), (by first | rfl | exact vint (by omega)), (by first | rfl | exact vint (by omega)), (by first | rfl | exact vint (by omega)), (by first | rfl | exact vint (by omega)), (by first | rfl | exact vint (by omega)), (by first | rfl | exact vint (by omega)), (by first | rfl | exact vint (by omega)), (by first | rfl | exact vint (by omega)), (by first | rfl | exact vint (by omega)), (by first | rfl | exact vint (by omega)), (by first | rfl | exact vint (by omega)), (by first | rfl | exact vint (by omega)), (by first | rfl | exact vint (by omega)), trivial⟩ (fun w S => S)
     · -- 13 comes first
      refine l_conv (L' := row e_S.T e_S.sz a13 (t.f_Reads.xs).length c13 (flat e_S t.f_Reads.xs) :: row e_S.T e_S.sz a14 (([] : List ByteArray)).length 0 (flat e_S ([] : List ByteArray)) :: blk b2 (qzRCopy2) :: blk b1 (qzRCopy1 t) :: F) (fun w S => S.perm List.perm_append_comm) ?_
      refine o_alloc rfl ti30 fun b3 => ?_
      refine l_nil ?_
      refine q_conv (L' := (blk b2 (qzRCopy2) :: blk b1 (qzRCopy1 t) :: F) ++ [blk b3 (qzRCopy2), row e_S.T e_S.sz a13 (t.f_Reads.xs).length c13 (flat e_S t.f_Reads.xs), row e_S.T e_S.sz a14 (([] : List ByteArray)).length 0 (flat e_S ([] : List ByteArray))]) (fun w S => S.perm (List.perm_append_comm (l₁ := [blk b3 (qzRCopy2), row e_S.T e_S.sz a13 (t.f_Reads.xs).length c13 (flat e_S t.f_Reads.xs), row e_S.T e_S.sz a14 (([] : List ByteArray)).length 0 (flat e_S ([] : List ByteArray))]) (l₂ := blk b2 (qzRCopy2) :: blk b1 (qzRCopy1 t) :: F))) ?_
      refine h_next ?_
      refine h_one 11 rfl (by kernel_rfl) ?_
      refine l_conv (L' := blk b3 (qzRCopy2) :: row e_S.T e_S.sz a13 (t.f_Reads.xs).length c13 (flat e_S t.f_Reads.xs) :: row e_S.T e_S.sz a14 (([] : List ByteArray)).length 0 (flat e_S ([] : List ByteArray)) :: blk b2 (qzRCopy2) :: blk b1 (qzRCopy1 t) :: F) (fun w S => S.perm List.perm_append_comm) ?_
      refine l_f2 ?_
      refine o_append e_S_ok rfl rfl rfl Try.underlying27 (TxR.c (TxR.c (TxR.c (TxR.c (TxR.c T_t))))).rw (by show (_ + _) * _ ≤ _; simp only [List.length_nil]; omega) (by simp only [List.length_nil]; omega) fun a17 c17 => ?_
      refine l_eq (t := 17) (v' := .slice a17 (t.f_Writes.xs).length c17) rfl (by rfl) ?_
      refine l_conv (L' := row e_S.T e_S.sz a17 (t.f_Writes.xs).length c17 (flat e_S t.f_Writes.xs) :: _) (fun w S => by exact S) ?_
      refine l_nil ?_
      refine q_conv (L' := (blk b2 (qzRCopy2) :: blk b1 (qzRCopy1 t) :: F) ++ [row e_S.T e_S.sz a17 (t.f_Writes.xs).length c17 (flat e_S t.f_Writes.xs), blk b3 (qzRCopy2), row e_S.T e_S.sz a13 (t.f_Reads.xs).length c13 (flat e_S t.f_Reads.xs)]) (fun w S => S.perm (List.perm_append_comm (l₁ := [row e_S.T e_S.sz a17 (t.f_Writes.xs).length c17 (flat e_S t.f_Writes.xs), blk b3 (qzRCopy2), row e_S.T e_S.sz a13 (t.f_Reads.xs).length c13 (flat e_S t.f_Reads.xs)]) (l₂ := blk b2 (qzRCopy2) :: blk b1 (qzRCopy1 t) :: F))) ?_
      refine h_next ?_
      refine h_take 12 rfl rfl (by kernel_rfl) (by kernel_rfl) (by kernel_rfl) (fun L0 => v_build rfl sp30 ti30 rfl ((fill_cons (cells' := [.int .i64 t.f_Kind, .slice none 0 0, .slice none 0 0, .slice none 0 0, .int .i64 0]) rfl rfl rfl rfl (fill_cons (cells' := [.int .i64 t.f_Kind, .slice none 0 0, .slice none 0 0, .slice none 0 0, .int .i64 t.f_To]) rfl rfl rfl rfl (fill_cons (cells' := [.int .i64 t.f_Kind, .slice a13 (t.f_Reads.xs).length c13, .slice none 0 0, .slice none 0 0, .int .i64 t.f_To]) rfl rfl rfl rfl (fill_cons (cells' := [.int .i64 t.f_Kind, .slice a13 (t.f_Reads.xs).length c13, .slice a17 (t.f_Writes.xs).length c17, .slice none 0 0, .int .i64 t.f_To]) rfl rfl rfl rfl fill_nil)))))) ?_
      refine h_one 14 rfl (by kernel_rfl) ?_
      refine l_conv (L' := row e_S.T e_S.sz a17 (t.f_Writes.xs).length c17 (flat e_S t.f_Writes.xs) :: blk b3 (qzRCopy2) :: row e_S.T e_S.sz a13 (t.f_Reads.xs).length c13 (flat e_S t.f_Reads.xs) :: blk b2 (qzRCopy2) :: blk b1 (qzRCopy1 t) :: F) (fun w S => S.perm List.perm_append_comm) ?_
      refine l_f1 ?_
      refine o_storen rfl rfl ti30 rfl rfl rfl rfl ?_
      refine l_nil ?_
      refine q_conv (L' := (blk b2 (qzRCopy2) :: blk b1 (qzRCopy1 t) :: F) ++ [blk b3 (qzRCopy3 t a13 c13 a17 c17), row e_S.T e_S.sz a17 (t.f_Writes.xs).length c17 (flat e_S t.f_Writes.xs), row e_S.T e_S.sz a13 (t.f_Reads.xs).length c13 (flat e_S t.f_Reads.xs)]) (fun w S => S.perm (List.perm_append_comm (l₁ := [blk b3 (qzRCopy3 t a13 c13 a17 c17), row e_S.T e_S.sz a17 (t.f_Writes.xs).length c17 (flat e_S t.f_Writes.xs), row e_S.T e_S.sz a13 (t.f_Reads.xs).length c13 (flat e_S t.f_Reads.xs)]) (l₂ := blk b2 (qzRCopy2) :: blk b1 (qzRCopy1 t) :: F))) ?_
      refine h_next ?_
      refine h_done (by kernel_rfl) ?_
      refine q_conv (L' := blk b3 (qzRCopy3 t a13 c13 a17 c17) :: row e_S.T e_S.sz a17 (t.f_Writes.xs).length c17 (flat e_S t.f_Writes.xs) :: row e_S.T e_S.sz a13 (t.f_Reads.xs).length c13 (flat e_S t.f_Reads.xs) :: blk b2 (qzRCopy2) :: blk b1 (qzRCopy1 t) :: F) (fun w S => S.perm List.perm_append_comm) ?_
      exact q_mid (b3, a13, c13, a17, c17, a10, a14) (by trivial) ⟨(by first | rfl | exact vint (by omega)), (by first | rfl | exact vint (by omega)), (by first | rfl | exact vint (by omega)), (by first | rfl | exact vint (by omega)), (by first | rfl | exact vint (by omega)), (by first | rfl | exact vint (by omega)), (by first | rfl | exact vint (by omega)), (by first | rfl | exact vint (by omega)), (by first | rfl | exact vint (by omega)), (by first | rfl | exact vint (by omega)), (by first | rfl | exact vint (by omega)), (by first | rfl | exact vint (by omega)), (by first | rfl | exact vint (by omega)), (by first | rfl | exact vint (by omega)), (by first | rfl | exact vint (by omega)), (by first | rfl | exact vint (by omega)), (by first | rfl | exact vint (by omega)), trivial⟩ (fun w S => S)
    · -- 13 comes first
     refine l_conv (L' := row e_S.T e_S.sz a10 (([] : List ByteArray)).length 0 (flat e_S ([] : List ByteArray)) :: row e_S.T e_S.sz a14 (([] : List ByteArray)).length 0 (flat e_S ([] : List ByteArray)) :: blk b2 (qzRCopy2) :: blk b1 (qzRCopy1 t) :: F) (fun w S => S.perm List.perm_append_comm) ?_
     refine o_alloc rfl ti30 fun b3 => ?_
     refine l_nil ?_
     refine q_conv (L' := (blk b2 (qzRCopy2) :: blk b1 (qzRCopy1 t) :: F) ++ [blk b3 (qzRCopy2), row e_S.T e_S.sz a10 (([] : List ByteArray)).length 0 (flat e_S ([] : List ByteArray)), row e_S.T e_S.sz a14 (([] : List ByteArray)).length 0 (flat e_S ([] : List ByteArray))]) (fun w S => S.perm (List.perm_append_comm (l₁ := [blk b3 (qzRCopy2), row e_S.T e_S.sz a10 (([] : List ByteArray)).length 0 (flat e_S ([] : List ByteArray)), row e_S.T e_S.sz a14 (([] : List ByteArray)).length 0 (flat e_S ([] : List ByteArray))]) (l₂ := blk b2 (qzRCopy2) :: blk b1 (qzRCopy1 t) :: F))) ?_
     refine h_next ?_
     refine h_one 7 rfl (by kernel_rfl) ?_
     refine l_conv (L' := blk b3 (qzRCopy2) :: row e_S.T e_S.sz a10 (([] : List ByteArray)).length 0 (flat e_S ([] : List ByteArray)) :: row e_S.T e_S.sz a14 (([] : List ByteArray)).length 0 (flat e_S ([] : List ByteArray)) :: blk b2 (qzRCopy2) :: blk b1 (qzRCopy1 t) :: F) (fun w S => S.perm List.perm_append_comm) ?_
     refine l_f1 ?_
     refine o_append e_S_ok rfl rfl rfl Try.underlying27 (TxR.c (TxR.c (TxR.c (TxR.c (TxR.c T_t))))).rr (by show (_ + _) * _ ≤ _; simp only [List.length_nil]; omega) (by simp only [List.length_nil]; omega) fun a13 c13 => ?_
     refine l_eq (t := 13) (v' := .slice a13 (t.f_Reads.xs).length c13) rfl (by rfl) ?_
     refine l_conv (L' := row e_S.T e_S.sz a13 (t.f_Reads.xs).length c13 (flat e_S t.f_Reads.xs) :: _) (fun w S => by exact S) ?_
     refine l_nil ?_
     refine q_conv (L' := (blk b2 (qzRCopy2) :: blk b1 (qzRCopy1 t) :: F) ++ [row e_S.T e_S.sz a13 (t.f_Reads.xs).length c13 (flat e_S t.f_Reads.xs), blk b3 (qzRCopy2), row e_S.T e_S.sz a14 (([] : List ByteArray)).length 0 (flat e_S ([] : List ByteArray))]) (fun w S => S.perm (List.perm_append_comm (l₁ := [row e_S.T e_S.sz a13 (t.f_Reads.xs).length c13 (flat e_S t.f_Reads.xs), blk b3 (qzRCopy2), row e_S.T e_S.sz a14 (([] : List ByteArray)).length 0 (flat e_S ([] : List ByteArray))]) (l₂ := blk b2 (qzRCopy2) :: blk b1 (qzRCopy1 t) :: F))) ?_
     refine h_next ?_
     refine h_one 11 rfl (by kernel_rfl) ?_
     refine l_conv (L' := row e_S.T e_S.sz a13 (t.f_Reads.xs).length c13 (flat e_S t.f_Reads.xs) :: blk b3 (qzRCopy2) :: row e_S.T e_S.sz a14 (([] : List ByteArray)).length 0 (flat e_S ([] : List ByteArray)) :: blk b2 (qzRCopy2) :: blk b1 (qzRCopy1 t) :: F) (fun w S => S.perm List.perm_append_comm) ?_
     refine l_f2 ?_
     refine o_append e_S_ok rfl rfl rfl Try.underlying27 (TxR.c (TxR.c (TxR.c (TxR.c (TxR.c T_t))))).rw (by show (_ + _) * _ ≤ _; simp only [List.length_nil]; omega) (by simp only [List.length_nil]; omega) fun a17 c17 => ?_
     refine l_eq (t := 17) (v' := .slice a17 (t.f_Writes.xs).length c17) rfl (by rfl) ?_
     refine l_conv (L' := row e_S.T e_S.sz a17 (t.f_Writes.xs).length c17 (flat e_S t.f_Writes.xs) :: _) (fun w S => by exact S) ?_
     refine l_nil ?_
     refine q_conv (L' := (blk b2 (qzRCopy2) :: blk b1 (qzRCopy1 t) :: F) ++ [row e_S.T e_S.sz a17 (t.f_Writes.xs).length c17 (flat e_S t.f_Writes.xs), row e_S.T e_S.sz a13 (t.f_Reads.xs).length c13 (flat e_S t.f_Reads.xs), blk b3 (qzRCopy2)]) (fun w S => S.perm (List.perm_append_comm (l₁ := [row e_S.T e_S.sz a17 (t.f_Writes.xs).length c17 (flat e_S t.f_Writes.xs), row e_S.T e_S.sz a13 (t.f_Reads.xs).length c13 (flat e_S t.f_Reads.xs), blk b3 (qzRCopy2)]) (l₂ := blk b2 (qzRCopy2) :: blk b1 (qzRCopy1 t) :: F))) ?_
     refine h_next ?_
     refine h_take 12 rfl rfl (by kernel_rfl) (by kernel_rfl) (by kernel_rfl) (fun L0 => v_build rfl sp30 ti30 rfl ((fill_cons (cells' := [.int .i64 t.f_Kind, .slice none 0 0, .slice none 0 0, .slice none 0 0, .int .i64 0]) rfl rfl rfl rfl (fill_cons (cells' := [.int .i64 t.f_Kind, .slice none 0 0, .slice none 0 0, .slice none 0 0, .int .i64 t.f_To]) rfl rfl rfl rfl (fill_cons (cells' := [.int .i64 t.f_Kind, .slice a13 (t.f_Reads.xs).length c13, .slice none 0 0, .slice none 0 0, .int .i64 t.f_To]) rfl rfl rfl rfl (fill_cons (cells' := [.int .i64 t.f_Kind, .slice a13 (t.f_Reads.xs).length c13, .slice a17 (t.f_Writes.xs).length c17, .slice none 0 0, .int .i64 t.f_To]) rfl rfl rfl rfl fill_nil)))))) ?_
     refine h_one 14 rfl (by kernel_rfl) ?_
     refine l_conv (L' := row e_S.T e_S.sz a17 (t.f_Writes.xs).length c17 (flat e_S t.f_Writes.xs) :: row e_S.T e_S.sz a13 (t.f_Reads.xs).length c13 (flat e_S t.f_Reads.xs) :: blk b3 (qzRCopy2) :: blk b2 (qzRCopy2) :: blk b1 (qzRCopy1 t) :: F) (fun w S => S.perm List.perm_append_comm) ?_
     refine l_f2 ?_
     refine o_storen rfl rfl ti30 rfl rfl rfl rfl ?_
     refine l_nil ?_
     refine q_conv (L' := (blk b2 (qzRCopy2) :: blk b1 (qzRCopy1 t) :: F) ++ [blk b3 (qzRCopy3 t a13 c13 a17 c17), row e_S.T e_S.sz a17 (t.f_Writes.xs).length c17 (flat e_S t.f_Writes.xs), row e_S.T e_S.sz a13 (t.f_Reads.xs).length c13 (flat e_S t.f_Reads.xs)]) (fun w S => S.perm (List.perm_append_comm (l₁ := [blk b3 (qzRCopy3 t a13 c13 a17 c17), row e_S.T e_S.sz a17 (t.f_Writes.xs).length c17 (flat e_S t.f_Writes.xs), row e_S.T e_S.sz a13 (t.f_Reads.xs).length c13 (flat e_S t.f_Reads.xs)]) (l₂ := blk b2 (qzRCopy2) :: blk b1 (qzRCopy1 t) :: F))) ?_
     refine h_next ?_
     refine h_done (by kernel_rfl) ?_
     refine q_conv (L' := blk b3 (qzRCopy3 t a13 c13 a17 c17) :: row e_S.T e_S.sz a17 (t.f_Writes.xs).length c17 (flat e_S t.f_Writes.xs) :: row e_S.T e_S.sz a13 (t.f_Reads.xs).length c13 (flat e_S t.f_Reads.xs) :: blk b2 (qzRCopy2) :: blk b1 (qzRCopy1 t) :: F) (fun w S => S.perm List.perm_append_comm) ?_
     exact q_mid (b3, a13, c13, a17, c17, a10, a14) (by trivial) ⟨(by first | rfl | exact vint (by omega)), (by first | rfl | exact vint (by omega)), (by first | rfl | exact vint (by omega)), (by first | rfl | exact vint (by omega)), (by first | rfl | exact vint (by omega)), (by first | rfl | exact vint (by omega)), (by first | rfl | exact vint (by omega)), (by first | rfl | exact vint (by omega)), (by first | rfl | exact vint (by omega)), (by first | rfl | exact vint (by omega)), (by first | rfl | exact vint (by omega)), (by first | rfl | exact vint (by omega)), (by first | rfl | exact vint (by omega)), (by first | rfl | exact vint (by omega)), (by first | rfl | exact vint (by omega)), (by first | rfl | exact vint (by omega)), (by first | rfl | exact vint (by omega)), trivial⟩ (fun w S => S)
   · -- 13 comes first
    refine l_conv (L' := row e_S.T e_S.sz a14 (([] : List ByteArray)).length 0 (flat e_S ([] : List ByteArray)) :: blk b2 (qzRCopy2) :: blk b1 (qzRCopy1 t) :: F) (fun w S => S.perm List.perm_append_comm) ?_
    refine o_alloc rfl ti30 fun b3 => ?_
    refine l_nil ?_
    refine q_conv (L' := (blk b2 (qzRCopy2) :: blk b1 (qzRCopy1 t) :: F) ++ [blk b3 (qzRCopy2), row e_S.T e_S.sz a14 (([] : List ByteArray)).length 0 (flat e_S ([] : List ByteArray))]) (fun w S => S.perm (List.perm_append_comm (l₁ := [blk b3 (qzRCopy2), row e_S.T e_S.sz a14 (([] : List ByteArray)).length 0 (flat e_S ([] : List ByteArray))]) (l₂ := blk b2 (qzRCopy2) :: blk b1 (qzRCopy1 t) :: F))) ?_
    refine h_next ?_
    refine h_one 4 rfl (by kernel_rfl) ?_
    refine l_conv (L' := blk b3 (qzRCopy2) :: row e_S.T e_S.sz a14 (([] : List ByteArray)).length 0 (flat e_S ([] : List ByteArray)) :: blk b2 (qzRCopy2) :: blk b1 (qzRCopy1 t) :: F) (fun w S => S.perm List.perm_append_comm) ?_
    refine o_lit e_S_ok rfl Try.underlying27 rfl rfl rfl (lit_ok rfl) ([] : List ByteArray) rfl rfl fun a10 => ?_
    refine l_nil ?_
    refine q_conv (L' := (blk b2 (qzRCopy2) :: blk b1 (qzRCopy1 t) :: F) ++ [row e_S.T e_S.sz a10 (([] : List ByteArray)).length 0 (flat e_S ([] : List ByteArray)), blk b3 (qzRCopy2), row e_S.T e_S.sz a14 (([] : List ByteArray)).length 0 (flat e_S ([] : List ByteArray))]) (fun w S => S.perm (List.perm_append_comm (l₁ := [row e_S.T e_S.sz a10 (([] : List ByteArray)).length 0 (flat e_S ([] : List ByteArray)), blk b3 (qzRCopy2), row e_S.T e_S.sz a14 (([] : List ByteArray)).length 0 (flat e_S ([] : List ByteArray))]) (l₂ := blk b2 (qzRCopy2) :: blk b1 (qzRCopy1 t) :: F))) ?_
    refine h_next ?_
    refine h_one 7 rfl (by kernel_rfl) ?_
    refine l_conv (L' := row e_S.T e_S.sz a10 (([] : List ByteArray)).length 0 (flat e_S ([] : List ByteArray)) :: blk b3 (qzRCopy2) :: row e_S.T e_S.sz a14 (([] : List ByteArray)).length 0 (flat e_S ([] : List ByteArray)) :: blk b2 (qzRCopy2) :: blk b1 (qzRCopy1 t) :: F) (fun w S => S.perm List.perm_append_comm) ?_
    refine o_append e_S_ok rfl rfl rfl Try.underlying27 (TxR.c (TxR.c (TxR.c (TxR.c (TxR.c T_t))))).rr (by show (_ + _) * _ ≤ _; simp only [List.length_nil]; omega) (by simp only [List.length_nil]; omega) fun a13 c13 => ?_
    refine l_eq (t := 13) (v' := .slice a13 (t.f_Reads.xs).length c13) rfl (by rfl) ?_
    refine l_conv (L' := row e_S.T e_S.sz a13 (t.f_Reads.xs).length c13 (flat e_S t.f_Reads.xs) :: _) (fun w S => by exact S) ?_
    refine l_nil ?_
    refine q_conv (L' := (blk b2 (qzRCopy2) :: blk b1 (qzRCopy1 t) :: F) ++ [row e_S.T e_S.sz a13 (t.f_Reads.xs).length c13 (flat e_S t.f_Reads.xs), blk b3 (qzRCopy2), row e_S.T e_S.sz a14 (([] : List ByteArray)).length 0 (flat e_S ([] : List ByteArray))]) (fun w S => S.perm (List.perm_append_comm (l₁ := [row e_S.T e_S.sz a13 (t.f_Reads.xs).length c13 (flat e_S t.f_Reads.xs), blk b3 (qzRCopy2), row e_S.T e_S.sz a14 (([] : List ByteArray)).length 0 (flat e_S ([] : List ByteArray))]) (l₂ := blk b2 (qzRCopy2) :: blk b1 (qzRCopy1 t) :: F))) ?_
    refine h_next ?_
    refine h_one 11 rfl (by kernel_rfl) ?_
    refine l_conv (L' := row e_S.T e_S.sz a13 (t.f_Reads.xs).length c13 (flat e_S t.f_Reads.xs) :: blk b3 (qzRCopy2) :: row e_S.T e_S.sz a14 (([] : List ByteArray)).length 0 (flat e_S ([] : List ByteArray)) :: blk b2 (qzRCopy2) :: blk b1 (qzRCopy1 t) :: F) (fun w S => S.perm List.perm_append_comm) ?_
    refine l_f2 ?_
    refine o_append e_S_ok rfl rfl rfl Try.underlying27 (TxR.c (TxR.c (TxR.c (TxR.c (TxR.c T_t))))).rw (by show (_ + _) * _ ≤ _; simp only [List.length_nil]; omega) (by simp only [List.length_nil]; omega) fun a17 c17 => ?_
    refine l_eq (t := 17) (v' := .slice a17 (t.f_Writes.xs).length c17) rfl (by rfl) ?_
    refine l_conv (L' := row e_S.T e_S.sz a17 (t.f_Writes.xs).length c17 (flat e_S t.f_Writes.xs) :: _) (fun w S => by exact S) ?_
    refine l_nil ?_
    refine q_conv (L' := (blk b2 (qzRCopy2) :: blk b1 (qzRCopy1 t) :: F) ++ [row e_S.T e_S.sz a17 (t.f_Writes.xs).length c17 (flat e_S t.f_Writes.xs), row e_S.T e_S.sz a13 (t.f_Reads.xs).length c13 (flat e_S t.f_Reads.xs), blk b3 (qzRCopy2)]) (fun w S => S.perm (List.perm_append_comm (l₁ := [row e_S.T e_S.sz a17 (t.f_Writes.xs).length c17 (flat e_S t.f_Writes.xs), row e_S.T e_S.sz a13 (t.f_Reads.xs).length c13 (flat e_S t.f_Reads.xs), blk b3 (qzRCopy2)]) (l₂ := blk b2 (qzRCopy2) :: blk b1 (qzRCopy1 t) :: F))) ?_
    refine h_next ?_
    refine h_take 12 rfl rfl (by kernel_rfl) (by kernel_rfl) (by kernel_rfl) (fun L0 => v_build rfl sp30 ti30 rfl ((fill_cons (cells' := [.int .i64 t.f_Kind, .slice none 0 0, .slice none 0 0, .slice none 0 0, .int .i64 0]) rfl rfl rfl rfl (fill_cons (cells' := [.int .i64 t.f_Kind, .slice none 0 0, .slice none 0 0, .slice none 0 0, .int .i64 t.f_To]) rfl rfl rfl rfl (fill_cons (cells' := [.int .i64 t.f_Kind, .slice a13 (t.f_Reads.xs).length c13, .slice none 0 0, .slice none 0 0, .int .i64 t.f_To]) rfl rfl rfl rfl (fill_cons (cells' := [.int .i64 t.f_Kind, .slice a13 (t.f_Reads.xs).length c13, .slice a17 (t.f_Writes.xs).length c17, .slice none 0 0, .int .i64 t.f_To]) rfl rfl rfl rfl fill_nil)))))) ?_
    refine h_one 14 rfl (by kernel_rfl) ?_
    refine l_conv (L' := row e_S.T e_S.sz a17 (t.f_Writes.xs).length c17 (flat e_S t.f_Writes.xs) :: row e_S.T e_S.sz a13 (t.f_Reads.xs).length c13 (flat e_S t.f_Reads.xs) :: blk b3 (qzRCopy2) :: blk b2 (qzRCopy2) :: blk b1 (qzRCopy1 t) :: F) (fun w S => S.perm List.perm_append_comm) ?_
    refine l_f2 ?_
    refine o_storen rfl rfl ti30 rfl rfl rfl rfl ?_
    refine l_nil ?_
    refine q_conv (L' := (blk b2 (qzRCopy2) :: blk b1 (qzRCopy1 t) :: F) ++ [blk b3 (qzRCopy3 t a13 c13 a17 c17), row e_S.T e_S.sz a17 (t.f_Writes.xs).length c17 (flat e_S t.f_Writes.xs), row e_S.T e_S.sz a13 (t.f_Reads.xs).length c13 (flat e_S t.f_Reads.xs)]) (fun w S => S.perm (List.perm_append_comm (l₁ := [blk b3 (qzRCopy3 t a13 c13 a17 c17), row e_S.T e_S.sz a17 (t.f_Writes.xs).length c17 (flat e_S t.f_Writes.xs), row e_S.T e_S.sz a13 (t.f_Reads.xs).length c13 (flat e_S t.f_Reads.xs)]) (l₂ := blk b2 (qzRCopy2) :: blk b1 (qzRCopy1 t) :: F))) ?_
    refine h_next ?_
    refine h_done (by kernel_rfl) ?_
    refine q_conv (L' := blk b3 (qzRCopy3 t a13 c13 a17 c17) :: row e_S.T e_S.sz a17 (t.f_Writes.xs).length c17 (flat e_S t.f_Writes.xs) :: row e_S.T e_S.sz a13 (t.f_Reads.xs).length c13 (flat e_S t.f_Reads.xs) :: blk b2 (qzRCopy2) :: blk b1 (qzRCopy1 t) :: F) (fun w S => S.perm List.perm_append_comm) ?_
    exact q_mid (b3, a13, c13, a17, c17, a10, a14) (by trivial) ⟨(by first | rfl | exact vint (by omega)), (by first | rfl | exact vint (by omega)), (by first | rfl | exact vint (by omega)), (by first | rfl | exact vint (by omega)), (by first | rfl | exact vint (by omega)), (by first | rfl | exact vint (by omega)), (by first | rfl | exact vint (by omega)), (by first | rfl | exact vint (by omega)), (by first | rfl | exact vint (by omega)), (by first | rfl | exact vint (by omega)), (by first | rfl | exact vint (by omega)), (by first | rfl | exact vint (by omega)), (by first | rfl | exact vint (by omega)), (by first | rfl | exact vint (by omega)), (by first | rfl | exact vint (by omega)), (by first | rfl | exact vint (by omega)), (by first | rfl | exact vint (by omega)), trivial⟩ (fun w S => S)
  · -- 13 comes first
   refine l_conv (L' := blk b2 (qzRCopy2) :: blk b1 (qzRCopy1 t) :: F) (fun w S => S.perm List.perm_append_comm) ?_
   refine o_alloc rfl ti30 fun b3 => ?_
   refine l_nil ?_
   refine q_conv (L' := (blk b2 (qzRCopy2) :: blk b1 (qzRCopy1 t) :: F) ++ [blk b3 (qzRCopy2)]) (fun w S => S.perm (List.perm_append_comm (l₁ := [blk b3 (qzRCopy2)]) (l₂ := blk b2 (qzRCopy2) :: blk b1 (qzRCopy1 t) :: F))) ?_
   refine h_next ?_
   refine h_many (is := [4, 8]) (by kernel_rfl) (by decide) (forall_cons ⟨_, rfl, ?_⟩ (forall_cons ⟨_, rfl, ?_⟩ forall_nil))
   · -- 4 comes first
    refine l_conv (L' := blk b3 (qzRCopy2) :: blk b2 (qzRCopy2) :: blk b1 (qzRCopy1 t) :: F) (fun w S => S.perm List.perm_append_comm) ?_
    refine o_lit e_S_ok rfl Try.underlying27 rfl rfl rfl (lit_ok rfl) ([] : List ByteArray) rfl rfl fun a10 => ?_
    refine l_nil ?_
    refine q_conv (L' := (blk b2 (qzRCopy2) :: blk b1 (qzRCopy1 t) :: F) ++ [row e_S.T e_S.sz a10 (([] : List ByteArray)).length 0 (flat e_S ([] : List ByteArray)), blk b3 (qzRCopy2)]) (fun w S => S.perm (List.perm_append_comm (l₁ := [row e_S.T e_S.sz a10 (([] : List ByteArray)).length 0 (flat e_S ([] : List ByteArray)), blk b3 (qzRCopy2)]) (l₂ := blk b2 (qzRCopy2) :: blk b1 (qzRCopy1 t) :: F))) ?_
    refine h_next ?_
    refine h_many (is := [7, 8]) (by kernel_rfl) (by decide) (forall_cons ⟨_, rfl, ?_⟩ (forall_cons ⟨_, rfl, ?_⟩ forall_nil))
    · -- 7 comes first
     refine l_conv (L' := row e_S.T e_S.sz a10 (([] : List ByteArray)).length 0 (flat e_S ([] : List ByteArray)) :: blk b3 (qzRCopy2) :: blk b2 (qzRCopy2) :: blk b1 (qzRCopy1 t) :: F) (fun w S => S.perm List.perm_append_comm) ?_
     refine o_append e_S_ok rfl rfl rfl Try.underlying27 (TxR.c (TxR.c (TxR.c (TxR.c T_t)))).rr (by show (_ + _) * _ ≤ _; simp only [List.length_nil]; omega) (by simp only [List.length_nil]; omega) fun a13 c13 => ?_
     refine l_eq (t := 13) (v' := .slice a13 (t.f_Reads.xs).length c13) rfl (by rfl) ?_
     refine l_conv (L' := row e_S.T e_S.sz a13 (t.f_Reads.xs).length c13 (flat e_S t.f_Reads.xs) :: _) (fun w S => by exact S) ?_
     refine l_nil ?_
     refine q_conv (L' := (blk b2 (qzRCopy2) :: blk b1 (qzRCopy1 t) :: F) ++ [row e_S.T e_S.sz a13 (t.f_Reads.xs).length c13 (flat e_S t.f_Reads.xs), blk b3 (qzRCopy2)]) (fun w S => S.perm (List.perm_append_comm (l₁ := [row e_S.T e_S.sz a13 (t.f_Reads.xs).length c13 (flat e_S t.f_Reads.xs), blk b3 (qzRCopy2)]) (l₂ := blk b2 (qzRCopy2) :: blk b1 (qzRCopy1 t) :: F))) ?_
     refine h_next ?_
     refine h_one 8 rfl (by kernel_rfl) ?_
     refine l_conv (L' := row e_S.T e_S.sz a13 (t.f_Reads.xs).length c13 (flat e_S t.f_Reads.xs) :: blk b3 (qzRCopy2) :: blk b2 (qzRCopy2) :: blk b1 (qzRCopy1 t) :: F) (fun w S => S.perm List.perm_append_comm) ?_
     refine o_lit e_S_ok rfl Try.underlying27 rfl rfl rfl (lit_ok rfl) ([] : List ByteArray) rfl rfl fun a14 => ?_
     refine l_nil ?_
     refine q_conv (L' := (blk b2 (qzRCopy2) :: blk b1 (qzRCopy1 t) :: F) ++ [row e_S.T e_S.sz a14 (([] : List ByteArray)).length 0 (flat e_S ([] : List ByteArray)), row e_S.T e_S.sz a13 (t.f_Reads.xs).length c13 (flat e_S t.f_Reads.xs), blk b3 (qzRCopy2)]) (fun w S => S.perm (List.perm_append_comm (l₁ := [row e_S.T e_S.sz a14 (([] : List ByteArray)).length 0 (flat e_S ([] : List ByteArray)), row e_S.T e_S.sz a13 (t.f_Reads.xs).length c13 (flat e_S t.f_Reads.xs), blk b3 (qzRCopy2)]) (l₂ := blk b2 (qzRCopy2) :: blk b1 (qzRCopy1 t) :: F))) ?_
     refine h_next ?_
     refine h_one 11 rfl (by kernel_rfl) ?_
     refine l_conv (L' := row e_S.T e_S.sz a14 (([] : List ByteArray)).length 0 (flat e_S ([] : List ByteArray)) :: row e_S.T e_S.sz a13 (t.f_Reads.xs).length c13 (flat e_S t.f_Reads.xs) :: blk b3 (qzRCopy2) :: blk b2 (qzRCopy2) :: blk b1 (qzRCopy1 t) :: F) (fun w S => S.perm List.perm_append_comm) ?_
     refine o_append e_S_ok rfl rfl rfl Try.underlying27 (TxR.c (TxR.c (TxR.c (TxR.c (TxR.c T_t))))).rw (by show (_ + _) * _ ≤ _; simp only [List.length_nil]; omega) (by simp only [List.length_nil]; omega) fun a17 c17 => ?_
     refine l_eq (t := 17) (v' := .slice a17 (t.f_Writes.xs).length c17) rfl (by rfl) ?_
     refine l_conv (L' := row e_S.T e_S.sz a17 (t.f_Writes.xs).length c17 (flat e_S t.f_Writes.xs) :: _) (fun w S => by exact S) ?_
     refine l_nil ?_
     refine q_conv (L' := (blk b2 (qzRCopy2) :: blk b1 (qzRCopy1 t) :: F) ++ [row e_S.T e_S.sz a17 (t.f_Writes.xs).length c17 (flat e_S t.f_Writes.xs), row e_S.T e_S.sz a13 (t.f_Reads.xs).length c13 (flat e_S t.f_Reads.xs), blk b3 (qzRCopy2)]) (fun w S => S.perm (List.perm_append_comm (l₁ := [row e_S.T e_S.sz a17 (t.f_Writes.xs).length c17 (flat e_S t.f_Writes.xs), row e_S.T e_S.sz a13 (t.f_Reads.xs).length c13 (flat e_S t.f_Reads.xs), blk b3 (qzRCopy2)]) (l₂ := blk b2 (qzRCopy2) :: blk b1 (qzRCopy1 t) :: F))) ?_
     refine h_next ?_
     refine h_take 12 rfl rfl (by kernel_rfl) (by kernel_rfl) (by kernel_rfl) (fun L0 => v_build rfl sp30 ti30 rfl ((fill_cons (cells' := [.int .i64 t.f_Kind, .slice none 0 0, .slice none 0 0, .slice none 0 0, .int .i64 0]) rfl rfl rfl rfl (fill_cons (cells' := [.int .i64 t.f_Kind, .slice none 0 0, .slice none 0 0, .slice none 0 0, .int .i64 t.f_To]) rfl rfl rfl rfl (fill_cons (cells' := [.int .i64 t.f_Kind, .slice a13 (t.f_Reads.xs).length c13, .slice none 0 0, .slice none 0 0, .int .i64 t.f_To]) rfl rfl rfl rfl (fill_cons (cells' := [.int .i64 t.f_Kind, .slice a13 (t.f_Reads.xs).length c13, .slice a17 (t.f_Writes.xs).length c17, .slice none 0 0, .int .i64 t.f_To]) rfl rfl rfl rfl fill_nil)))))) ?_
     refine h_one 14 rfl (by kernel_rfl) ?_
     refine l_conv (L' := row e_S.T e_S.sz a17 (t.f_Writes.xs).length c17 (flat e_S t.f_Writes.xs) :: row e_S.T e_S.sz a13 (t.f_Reads.xs).length c13 (flat e_S t.f_Reads.xs) :: blk b3 (qzRCopy2) :: blk b2 (qzRCopy2) :: blk b1 (qzRCopy1 t) :: F) (fun w S => S.perm List.perm_append_comm) ?_
     refine l_f2 ?_
     refine o_storen rfl rfl ti30 rfl rfl rfl rfl ?_
     refine l_nil ?_
     refine q_conv (L' := (blk b2 (qzRCopy2) :: blk b1 (qzRCopy1 t) :: F) ++ [blk b3 (qzRCopy3 t a13 c13 a17 c17), row e_S.T e_S.sz a17 (t.f_Writes.xs).length c17 (flat e_S t.f_Writes.xs), row e_S.T e_S.sz a13 (t.f_Reads.xs).length c13 (flat e_S t.f_Reads.xs)]) (fun w S => S.perm (List.perm_append_comm (l₁ := [blk b3 (qzRCopy3 t a13 c13 a17 c17), row e_S.T e_S.sz a17 (t.f_Writes.xs).length c17 (flat e_S t.f_Writes.xs), row e_S.T e_S.sz a13 (t.f_Reads.xs).length c13 (flat e_S t.f_Reads.xs)]) (l₂ := blk b2 (qzRCopy2) :: blk b1 (qzRCopy1 t) :: F))) ?_
     refine h_next ?_
     refine h_done (by kernel_rfl) ?_
     refine q_conv (L' := blk b3 (qzRCopy3 t a13 c13 a17 c17) :: row e_S.T e_S.sz a17 (t.f_Writes.xs).length c17 (flat e_S t.f_Writes.xs) :: row e_S.T e_S.sz a13 (t.f_Reads.xs).length c13 (flat e_S t.f_Reads.xs) :: blk b2 (qzRCopy2) :: blk b1 (qzRCopy1 t) :: F) (fun w S => S.perm List.perm_append_comm) ?_
     exact q_mid (b3, a13, c13, a17, c17, a10, a14) (by trivial) ⟨(by first | rfl | exact vint (by omega)), (by first | rfl | exact vint (by omega)), (by first | rfl | exact vint (by omega)), (by first | rfl | exact vint (by omega)), (by first | rfl | exact vint (by omega)), (by first | rfl | exact vint (by omega)), (by first | rfl | exact vint (by omega)), (by first | rfl | exact vint (by omega)), (by first | rfl | exact vint (by omega)), (by first | rfl | exact vint (by omega)), (by first | rfl | exact vint (by omega)), (by first | rfl | exact vint (by omega)), (by first | rfl | exact vint (by omega)), (by first | rfl | exact vint (by omega)), (by first | rfl | exact vint (by omega)), (by first | rfl | exact vint (by omega)), (by first | rfl | exact vint (by omega)), trivial⟩ (fun w S => S)
    · -- 8 comes first
     refine l_conv (L' := row e_S.T e_S.sz a10 (([] : List ByteArray)).length 0 (flat e_S ([] : List ByteArray)) :: blk b3 (qzRCopy2) :: blk b2 (qzRCopy2) :: blk b1 (qzRCopy1 t) :: F) (fun w S => S.perm List.perm_append_comm) ?_
     refine o_lit e_S_ok rfl Try.underlying27 rfl rfl rfl (lit_ok rfl) ([] : List ByteArray) rfl rfl fun a14 => ?_
     refine l_nil ?_
     refine q_conv (L' := (blk b2 (qzRCopy2) :: blk b1 (qzRCopy1 t) :: F) ++ [row e_S.T e_S.sz a14 (([] : List ByteArray)).length 0 (flat e_S ([] : List ByteArray)), row e_S.T e_S.sz a10 (([] : List ByteArray)).length 0 (flat e_S ([] : List ByteArray)), blk b3 (qzRCopy2)]) (fun w S => S.perm (List.perm_append_comm (l₁ := [row e_S.T e_S.sz a14 (([] : List ByteArray)).length 0 (flat e_S ([] : List ByteArray)), row e_S.T e_S.sz a10 (([] : List ByteArray)).length 0 (flat e_S ([] : List ByteArray)), blk b3 (qzRCopy2)]) (l₂ := blk b2 (qzRCopy2) :: blk b1 (qzRCopy1 t) :: F))) ?_
     refine h_next ?_
     refine h_one 7 rfl (by kernel_rfl) ?_
     refine l_conv (L' := row e_S.T e_S.sz a14 (([] : List ByteArray)).length 0 (flat e_S ([] : List ByteArray)) :: row e_S.T e_S.sz a10 (([] : List ByteArray)).length 0 (flat e_S ([] : List ByteArray)) :: blk b3 (qzRCopy2) :: blk b2 (qzRCopy2) :: blk b1 (qzRCopy1 t) :: F) (fun w S => S.perm List.perm_append_comm) ?_
     refine l_f1 ?_
     refine o_append e_S_ok rfl rfl rfl Try.underlying27 (TxR.c (TxR.c (TxR.c (TxR.c (TxR.c T_t))))).rr (by show (_ + _) * _ ≤ _; simp only [List.length_nil]; omega) (by simp only [List.length_nil]; omega) fun a13 c13 => ?_
     refine l_eq (t := 13) (v' := .slice a13 (t.f_Reads.xs).length c13) rfl (by rfl) ?_
     refine l_conv (L' := row e_S.T e_S.sz a13 (t.f_Reads.xs).length c13 (flat e_S t.f_Reads.xs) :: _) (fun w S => by exact S) ?_
     refine l_nil ?_
     refine q_conv (L' := (blk b2 (qzRCopy2) :: blk b1 (qzRCopy1 t) :: F) ++ [row e_S.T e_S.sz a13 (t.f_Reads.xs).length c13 (flat e_S t.f_Reads.xs), row e_S.T e_S.sz a14 (([] : List ByteArray)).length 0 (flat e_S ([] : List ByteArray)), blk b3 (qzRCopy2)]) (fun w S => S.perm (List.perm_append_comm (l₁ := [row e_S.T e_S.sz a13 (t.f_Reads.xs).length c13 (flat e_S t.f_Reads.xs), row e_S.T e_S.sz a14 (([] : List ByteArray)).length 0 (flat e_S ([] : List ByteArray)), blk b3 (qzRCopy2)]) (l₂ := blk b2 (qzRCopy2) :: blk b1 (qzRCopy1 t) :: F))) ?_
     refine h_next ?_
     refine h_one 11 rfl (by kernel_rfl) ?_
     refine l_conv (L' := row e_S.T e_S.sz a13 (t.f_Reads.xs).length c13 (flat e_S t.f_Reads.xs) :: row e_S.T e_S.sz a14 (([] : List ByteArray)).length 0 (flat e_S ([] : List ByteArray)) :: blk b3 (qzRCopy2) :: blk b2 (qzRCopy2) :: blk b1 (qzRCopy1 t) :: F) (fun w S => S.perm List.perm_append_comm) ?_
     refine l_f1 ?_
     refine o_append e_S_ok rfl rfl rfl Try.underlying27 (TxR.c (TxR.c (TxR.c (TxR.c (TxR.c T_t))))).rw (by show (_ + _) * _ ≤ _; simp only [List.length_nil]; omega) (by simp only [List.length_nil]; omega) fun a17 c17 => ?_
     refine l_eq (t := 17) (v' := .slice a17 (t.f_Writes.xs).length c17) rfl (by rfl) ?_
     refine l_conv (L' := row e_S.T e_S.sz a17 (t.f_Writes.xs).length c17 (flat e_S t.f_Writes.xs) :: _) (fun w S => by exact S) ?_
     refine l_nil ?_
     refine q_conv (L' := (blk b2 (qzRCopy2) :: blk b1 (qzRCopy1 t) :: F) ++ [row e_S.T e_S.sz a17 (t.f_Writes.xs).length c17 (flat e_S t.f_Writes.xs), row e_S.T e_S.sz a13 (t.f_Reads.xs).length c13 (flat e_S t.f_Reads.xs), blk b3 (qzRCopy2)]) (fun w S => S.perm (List.perm_append_comm (l₁ := [row e_S.T e_S.sz a17 (t.f_Writes.xs).length c17 (flat e_S t.f_Writes.xs), row e_S.T e_S.sz a13 (t.f_Reads.xs).length c13 (flat e_S t.f_Reads.xs), blk b3 (qzRCopy2)]) (l₂ := blk b2 (qzRCopy2) :: blk b1 (qzRCopy1 t) :: F))) ?_
     refine h_next ?_
     refine h_take 12 rfl rfl (by kernel_rfl) (by kernel_rfl) (by kernel_rfl) (fun L0 => v_build rfl sp30 ti30 rfl ((fill_cons (cells' := [.int .i64 t.f_Kind, .slice none 0 0, .slice none 0 0, .slice none 0 0, .int .i64 0]) rfl rfl rfl rfl (fill_cons (cells' := [.int .i64 t.f_Kind, .slice none 0 0, .slice none 0 0, .slice none 0 0, .int .i64 t.f_To]) rfl rfl rfl rfl (fill_cons (cells' := [.int .i64 t.f_Kind, .slice a13 (t.f_Reads.xs).length c13, .slice none 0 0, .slice none 0 0, .int .i64 t.f_To]) rfl rfl rfl rfl (fill_cons (cells' := [.int .i64 t.f_Kind, .slice a13 (t.f_Reads.xs).length c13, .slice a17 (t.f_Writes.xs).length c17, .slice none 0 0, .int .i64 t.f_To]) rfl rfl rfl rfl fill_nil)))))) ?_
     refine h_one 14 rfl (by kernel_rfl) ?_
     refine l_conv (L' := row e_S.T e_S.sz a17 (t.f_Writes.xs).length c17 (flat e_S t.f_Writes.xs) :: row e_S.T e_S.sz a13 (t.f_Reads.xs).length c13 (flat e_S t.f_Reads.xs) :: blk b3 (qzRCopy2) :: blk b2 (qzRCopy2) :: blk b1 (qzRCopy1 t) :: F) (fun w S => S.perm List.perm_append_comm) ?_
     refine l_f2 ?_
     refine o_storen rfl rfl ti30 rfl rfl rfl rfl ?_
     refine l_nil ?_
     refine q_conv (L' := (blk b2 (qzRCopy2) :: blk b1 (qzRCopy1 t) :: F) ++ [blk b3 (qzRCopy3 t a13 c13 a17 c17), row e_S.T e_S.sz a17 (t.f_Writes.xs).length c17 (flat e_S t.f_Writes.xs), row e_S.T e_S.sz a13 (t.f_Reads.xs).length c13 (flat e_S t.f_Reads.xs)]) (fun w S => S.perm (List.perm_append_comm (l₁ := [blk b3 (qzRCopy3 t a13 c13 a17 c17), row e_S.T e_S.sz a17 (t.f_Writes.xs).length c17 (flat e_S t.f_Writes.xs), row e_S.T e_S.sz a13 (t.f_Reads.xs).length c13 (flat e_S t.f_Reads.xs)]) (l₂ := blk b2 (qzRCopy2) :: blk b1 (qzRCopy1 t) :: F))) ?_
     refine h_next ?_
     refine h_done (by kernel_rfl) ?_
     refine q_conv (L' := blk b3 (qzRCopy3 t a13 c13 a17 c17) :: row e_S.T e_S.sz a17 (t.f_Writes.xs).length c17 (flat e_S t.f_Writes.xs) :: row e_S.T e_S.sz a13 (t.f_Reads.xs).length c13 (flat e_S t.f_Reads.xs) :: blk b2 (qzRCopy2) :: blk b1 (qzRCopy1 t) :: F) (fun w S => S.perm List.perm_append_comm) ?_
     exact q_mid (b3, a13, c13, a17, c17, a10, a14) (by trivial) ⟨(by first | rfl | exact vint (by omega)), (by first | rfl | exact vint (by omega)), (by first | rfl | exact vint (by omega)), (by first | rfl | exact vint (by omega)), (by first | rfl | exact vint (by omega)), (by first | rfl | exact vint (by omega)), (by first | rfl | exact vint (by omega)), (by first | rfl | exact vint (by omega)), (by first | rfl | exact vint (by omega)), (by first | rfl | exact vint (by omega)), (by first | rfl | exact vint (by omega)), (by first | rfl | exact vint (by omega)), (by first | rfl | exact vint (by omega)), (by first | rfl | exact vint (by omega)), (by first | rfl | exact vint (by omega)), (by first | rfl | exact vint (by omega)), (by first | rfl | exact vint (by omega)), trivial⟩ (fun w S => S)
   · -- 8 comes first
    refine l_conv (L' := blk b3 (qzRCopy2) :: blk b2 (qzRCopy2) :: blk b1 (qzRCopy1 t) :: F) (fun w S => S.perm List.perm_append_comm) ?_
    refine o_lit e_S_ok rfl Try.underlying27 rfl rfl rfl (lit_ok rfl) ([] : List ByteArray) rfl rfl fun a14 => ?_
    refine l_nil ?_
    refine q_conv (L' := (blk b2 (qzRCopy2) :: blk b1 (qzRCopy1 t) :: F) ++ [row e_S.T e_S.sz a14 (([] : List ByteArray)).length 0 (flat e_S ([] : List ByteArray)), blk b3 (qzRCopy2)]) (fun w S => S.perm (List.perm_append_comm (l₁ := [row e_S.T e_S.sz a14 (([] : List ByteArray)).length 0 (flat e_S ([] : List ByteArray)), blk b3 (qzRCopy2)]) (l₂ := blk b2 (qzRCopy2) :: blk b1 (qzRCopy1 t) :: F))) ?_
    refine h_next ?_
    refine h_one 4 rfl (by kernel_rfl) ?_
    refine l_conv (L' := row e_S.T e_S.sz a14 (([] : List ByteArray)).length 0 (flat e_S ([] : List ByteArray)) :: blk b3 (qzRCopy2) :: blk b2 (qzRCopy2) :: blk b1 (qzRCopy1 t) :: F) (fun w S => S.perm List.perm_append_comm) ?_
    refine o_lit e_S_ok rfl Try.underlying27 rfl rfl rfl (lit_ok rfl) ([] : List ByteArray) rfl rfl fun a10 => ?_
    refine l_nil ?_
    refine q_conv (L' := (blk b2 (qzRCopy2) :: blk b1 (qzRCopy1 t) :: F) ++ [row e_S.T e_S.sz a10 (([] : List ByteArray)).length 0 (flat e_S ([] : List ByteArray)), row e_S.T e_S.sz a14 (([] : List ByteArray)).length 0 (flat e_S ([] : List ByteArray)), blk b3 (qzRCopy2)]) (fun w S => S.perm (List.perm_append_comm (l₁ := [row e_S.T e_S.sz a10 (([] : List ByteArray)).length 0 (flat e_S ([] : List ByteArray)), row e_S.T e_S.sz a14 (([] : List ByteArray)).length 0 (flat e_S ([] : List ByteArray)), blk b3 (qzRCopy2)]) (l₂ := blk b2 (qzRCopy2) :: blk b1 (qzRCopy1 t) :: F))) ?_
    refine h_next ?_
    refine h_one 7 rfl (by kernel_rfl) ?_
    refine l_conv (L' := row e_S.T e_S.sz a10 (([] : List ByteArray)).length 0 (flat e_S ([] : List ByteArray)) :: row e_S.T e_S.sz a14 (([] : List ByteArray)).length 0 (flat e_S ([] : List ByteArray)) :: blk b3 (qzRCopy2) :: blk b2 (qzRCopy2) :: blk b1 (qzRCopy1 t) :: F) (fun w S => S.perm List.perm_append_comm) ?_
    refine o_append e_S_ok rfl rfl rfl Try.underlying27 (TxR.c (TxR.c (TxR.c (TxR.c (TxR.c T_t))))).rr (by show (_ + _) * _ ≤ _; simp only [List.length_nil]; omega) (by simp only [List.length_nil]; omega) fun a13 c13 => ?_
    refine l_eq (t := 13) (v' := .slice a13 (t.f_Reads.xs).length c13) rfl (by rfl) ?_
    refine l_conv (L' := row e_S.T e_S.sz a13 (t.f_Reads.xs).length c13 (flat e_S t.f_Reads.xs) :: _) (fun w S => by exact S) ?_
    refine l_nil ?_
    refine q_conv (L' := (blk b2 (qzRCopy2) :: blk b1 (qzRCopy1 t) :: F) ++ [row e_S.T e_S.sz a13 (t.f_Reads.xs).length c13 (flat e_S t.f_Reads.xs), row e_S.T e_S.sz a14 (([] : List ByteArray)).length 0 (flat e_S ([] : List ByteArray)), blk b3 (qzRCopy2)]) (fun w S => S.perm (List.perm_append_comm (l₁ := [row e_S.T e_S.sz a13 (t.f_Reads.xs).length c13 (flat e_S t.f_Reads.xs), row e_S.T e_S.sz a14 (([] : List ByteArray)).length 0 (flat e_S ([] : List ByteArray)), blk b3 (qzRCopy2)]) (l₂ := blk b2 (qzRCopy2) :: blk b1 (qzRCopy1 t) :: F))) ?_
    refine h_next ?_
    refine h_one 11 rfl (by kernel_rfl) ?_
    refine l_conv (L' := row e_S.T e_S.sz a13 (t.f_Reads.xs).length c13 (flat e_S t.f_Reads.xs) :: row e_S.T e_S.sz a14 (([] : List ByteArray)).length 0 (flat e_S ([] : List ByteArray)) :: blk b3 (qzRCopy2) :: blk b2 (qzRCopy2) :: blk b1 (qzRCopy1 t) :: F) (fun w S => S.perm List.perm_append_comm) ?_
    refine l_f1 ?_
    refine o_append e_S_ok rfl rfl rfl Try.underlying27 (TxR.c (TxR.c (TxR.c (TxR.c (TxR.c T_t))))).rw (by show (_ + _) * _ ≤ _; simp only [List.length_nil]; omega) (by simp only [List.length_nil]; omega) fun a17 c17 => ?_
    refine l_eq (t := 17) (v' := .slice a17 (t.f_Writes.xs).length c17) rfl (by rfl) ?_
    refine l_conv (L' := row e_S.T e_S.sz a17 (t.f_Writes.xs).length c17 (flat e_S t.f_Writes.xs) :: _) (fun w S => by exact S) ?_
    refine l_nil ?_
    refine q_conv (L' := (blk b2 (qzRCopy2) :: blk b1 (qzRCopy1 t) :: F) ++ [row e_S.T e_S.sz a17 (t.f_Writes.xs).length c17 (flat e_S t.f_Writes.xs), row e_S.T e_S.sz a13 (t.f_Reads.xs).length c13 (flat e_S t.f_Reads.xs), blk b3 (qzRCopy2)]) (fun w S => S.perm (List.perm_append_comm (l₁ := [row e_S.T e_S.sz a17 (t.f_Writes.xs).length c17 (flat e_S t.f_Writes.xs), row e_S.T e_S.sz a13 (t.f_Reads.xs).length c13 (flat e_S t.f_Reads.xs), blk b3 (qzRCopy2)]) (l₂ := blk b2 (qzRCopy2) :: blk b1 (qzRCopy1 t) :: F))) ?_
    refine h_next ?_
    refine h_take 12 rfl rfl (by kernel_rfl) (by kernel_rfl) (by kernel_rfl) (fun L0 => v_build rfl sp30 ti30 rfl ((fill_cons (cells' := [.int .i64 t.f_Kind, .slice none 0 0, .slice none 0 0, .slice none 0 0, .int .i64 0]) rfl rfl rfl rfl (fill_cons (cells' := [.int .i64 t.f_Kind, .slice none 0 0, .slice none 0 0, .slice none 0 0, .int .i64 t.f_To]) rfl rfl rfl rfl (fill_cons (cells' := [.int .i64 t.f_Kind, .slice a13 (t.f_Reads.xs).length c13, .slice none 0 0, .slice none 0 0, .int .i64 t.f_To]) rfl rfl rfl rfl (fill_cons (cells' := [.int .i64 t.f_Kind, .slice a13 (t.f_Reads.xs).length c13, .slice a17 (t.f_Writes.xs).length c17, .slice none 0 0, .int .i64 t.f_To]) rfl rfl rfl rfl fill_nil)))))) ?_
    refine h_one 14 rfl (by kernel_rfl) ?_
    refine l_conv (L' := row e_S.T e_S.sz a17 (t.f_Writes.xs).length c17 (flat e_S t.f_Writes.xs) :: row e_S.T e_S.sz a13 (t.f_Reads.xs).length c13 (flat e_S t.f_Reads.xs) :: blk b3 (qzRCopy2) :: blk b2 (qzRCopy2) :: blk b1 (qzRCopy1 t) :: F) (fun w S => S.perm List.perm_append_comm) ?_
    refine l_f2 ?_
    refine o_storen rfl rfl ti30 rfl rfl rfl rfl ?_
    refine l_nil ?_
    refine q_conv (L' := (blk b2 (qzRCopy2) :: blk b1 (qzRCopy1 t) :: F) ++ [blk b3 (qzRCopy3 t a13 c13 a17 c17), row e_S.T e_S.sz a17 (t.f_Writes.xs).length c17 (flat e_S t.f_Writes.xs), row e_S.T e_S.sz a13 (t.f_Reads.xs).length c13 (flat e_S t.f_Reads.xs)]) (fun w S => S.perm (List.perm_append_comm (l₁ := [blk b3 (qzRCopy3 t a13 c13 a17 c17), row e_S.T e_S.sz a17 (t.f_Writes.xs).length c17 (flat e_S t.f_Writes.xs), row e_S.T e_S.sz a13 (t.f_Reads.xs).length c13 (flat e_S t.f_Reads.xs)]) (l₂ := blk b2 (qzRCopy2) :: blk b1 (qzRCopy1 t) :: F))) ?_
    refine h_next ?_
    refine h_done (by kernel_rfl) ?_
    refine q_conv (L' := blk b3 (qzRCopy3 t a13 c13 a17 c17) :: row e_S.T e_S.sz a17 (t.f_Writes.xs).length c17 (flat e_S t.f_Writes.xs) :: row e_S.T e_S.sz a13 (t.f_Reads.xs).length c13 (flat e_S t.f_Reads.xs) :: blk b2 (qzRCopy2) :: blk b1 (qzRCopy1 t) :: F) (fun w S => S.perm List.perm_append_comm) ?_
    exact q_mid (b3, a13, c13, a17, c17, a10, a14) (by trivial) ⟨(by first | rfl | exact vint (by omega)), (by first | rfl | exact vint (by omega)), (by first | rfl | exact vint (by omega)), (by first | rfl | exact vint (by omega)), (by first | rfl | exact vint (by omega)), (by first | rfl | exact vint (by omega)), (by first | rfl | exact vint (by omega)), (by first | rfl | exact vint (by omega)), (by first | rfl | exact vint (by omega)), (by first | rfl | exact vint (by omega)), (by first | rfl | exact vint (by omega)), (by first | rfl | exact vint (by omega)), (by first | rfl | exact vint (by omega)), (by first | rfl | exact vint (by omega)), (by first | rfl | exact vint (by omega)), (by first | rfl | exact vint (by omega)), (by first | rfl | exact vint (by omega)), trivial⟩ (fun w S => S)
 · -- behind the cut
  rintro ⟨b3, a13, c13, a17, c17, a10, a14⟩ _hp
  try dsimp only at *
  refine c_seq ?_
  refine c_seq ?_
  refine c_nilrow e_Op ?_
  refine c_conv (L' := stars ((([] : List Op).map Op.f_Value).map (vrow e8)) :: _) (fun w S => S.stars_nil) ?_
  refine c_region ?_
  refine o_assign rfl rfl ?_
  refine l_nil ?_
  refine q_then ?_
  refine c_block ?_
  refine c_loop (α := Nat × (List Op) × (Option Addr) × Nat) (fun z => [(1, .pointer (some ⟨b1, 0, none⟩)), (2, .pointer (some ⟨b2, 0, none⟩)), (3, .pointer (some ⟨b3, 0, none⟩)), (4, .int .i64 (z.1 : Int))]) (fun z => stars ((z.2.1.map Op.f_Value).map (vrow e8)) :: row e_Op.T e_Op.sz z.2.2.1 (z.2.1).length z.2.2.2 (flat e_Op z.2.1) :: blk b3 (.cells #[.int .i64 t.f_Kind, .slice a13 (t.f_Reads.xs).length c13, .slice a17 (t.f_Writes.xs).length c17, .slice z.2.2.1 (z.2.1).length z.2.2.2, .int .i64 t.f_To] 30 (0, 0)) :: row e_S.T e_S.sz a17 (t.f_Writes.xs).length c17 (flat e_S t.f_Writes.xs) :: row e_S.T e_S.sz a13 (t.f_Reads.xs).length c13 (flat e_S t.f_Reads.xs) :: blk b2 (qzRCopy2) :: blk b1 (qzRCopy1 t) :: F) (fun z => z.1 ≤ t.f_Ops.xs.length ∧ z.2.1.length = z.1 ∧ SameOps z.2.1 t.f_Ops.xs z.1) (fun z => t.f_Ops.xs.length - z.1) (0, [], none, 0) (by exact ⟨Nat.zero_le _, rfl, sameOps_0⟩) ⟨(by first | rfl | exact vint (by omega)), (by first | rfl | exact vint (by omega)), (by first | rfl | exact vint (by omega)), (by first | rfl | exact vint (by omega)), trivial⟩ (fun w S => S) ?_
  rintro ⟨i, os, a7, c7⟩ ⟨hi, hol, hso⟩
  try dsimp only at *
  refine c_seq ?_
  refine c_seq ?_
  refine c_region ?_
  refine o_move rfl rfl ?_
  refine o_fieldAddr (q := ⟨b1, 3, none⟩) rfl rfl Try.underlying30 rfl ti28 rfl ?_
  refine o_load1 rfl rfl Try.underlying28 rfl (rd_mem 6 rfl rfl) ?_
  refine o_len rfl rfl Try.underlying28 ?_
  refine o_bin rfl rfl rfl b_lss ?_
  refine l_nil ?_
  refine q_then ?_
  refine c_cond rfl (fun h1 => ?_) (fun h1 => ?_)
  · -- h1T
   have h1b := h1
   try simp only [decide_eq_true_eq] at h1
   refine c_skip ?_
   refine q_then ?_
   refine c_seq ?_
   refine c_block ?_
   refine c_seq ?_
   refine c_region ?_
   refine o_fieldAddr (q := ⟨b1, 3, none⟩) rfl rfl Try.underlying30 rfl ti28 rfl ?_
   refine o_load1 rfl rfl Try.underlying28 rfl (rd_mem 6 rfl rfl) ?_
   refine o_move rfl rfl ?_
   refine o_index e_Op_ok rfl rfl rfl Try.underlying28 (by omega) (by omega) (TxR.c (TxR.c (TxR.c (TxR.c (TxR.c (TxR.c (TxR.c T_t))))))).ro fun ad29 ead29 => ?_
   obtain ⟨x29, hx29⟩ : ∃ x, (t.f_Ops.xs)[((i : Int)).toNat]? = some x := ⟨_, List.getElem?_eq_getElem (by omega)⟩
   have hv29 := small.op hx29
   refine o_loadn (vs := e_Op.cells x29) rfl rfl Try.underlying53 rfl ti53 (rdn_sl e_Op_ok ead29 (TxR.c (TxR.c (TxR.c (TxR.c (TxR.c (TxR.c (TxR.c T_t))))))).ro hx29) ?_
   refine o_alloc rfl ti53 fun b5 => ?_
   refine o_storen rfl rfl ti53 rfl rfl rfl rfl ?_
   refine l_nil ?_
   refine q_then ?_
   refine c_seq ?_
   refine c_region ?_
   refine o_lit e8_ok rfl Try.underlying45 rfl rfl rfl (lit_ok rfl) ([] : List UInt8) rfl rfl fun a31 => ?_
   refine o_fieldAddr (q := ⟨b1, 3, none⟩) rfl rfl Try.underlying30 rfl ti28 rfl ?_
   refine o_load1 rfl rfl Try.underlying28 rfl (rd_mem 8 rfl rfl) ?_
   refine o_move rfl rfl ?_
   refine o_indexK e_Op_ok ead29 rfl rfl rfl Try.underlying28 (by omega) (by omega) ?_
   obtain ⟨x35, hx35⟩ : ∃ x, (t.f_Ops.xs)[((i : Int)).toNat]? = some x := ⟨_, List.getElem?_eq_getElem (by omega)⟩
   have e35 : x35 = x29 := by rw [hx29] at hx35; exact (Option.some.inj hx35).symm
   have hv35 := small.op hx35
   refine o_fieldAddr rfl rfl Try.underlying53 rfl ti45 (Addr.add_add' _ _ _) ?_
   refine o_load1 rfl rfl Try.underlying45 rfl (rd_sl e_Op_ok ead29 (TxR.c (TxR.c (TxR.c (TxR.c (TxR.c (TxR.c (TxR.c (TxR.c (TxR.c T_t))))))))).ro hx35 rfl) ?_
   refine o_append e8_ok rfl rfl rfl Try.underlying45 ((TxR.c (TxR.c (TxR.c (TxR.c (TxR.c (TxR.c (TxR.c (TxR.c (TxR.c T_t))))))))).rv x35 (List.mem_of_getElem? hx35)) (by show (_ + _) * _ ≤ _; simp only [List.length_nil]; omega) (by simp only [List.length_nil]; omega) fun a38 c38 => ?_
   refine l_eq (t := 38) (v' := .slice a38 (x29.f_Value.xs).length c38) rfl (by rw [e35]; rfl) ?_
   refine l_conv (L' := row e8.T e8.sz a38 (x29.f_Value.xs).length c38 (flat e8 x29.f_Value.xs) :: _) (fun w S => by rw [e35] at S; exact S) ?_
   refine o_fieldAddr (q := ⟨b5, 2, none⟩) rfl rfl Try.underlying53 rfl ti45 rfl ?_
   refine l_f1 ?_
   refine o_store1 rfl rfl rfl ti45 rfl rfl ?_
   refine l_nil ?_
   refine q_then ?_
   refine c_region ?_
   refine o_fieldAddr (q := ⟨b3, 3, none⟩) rfl rfl Try.underlying30 rfl ti28 rfl ?_
   refine o_load1 rfl rfl Try.underlying28 rfl (rd_mem 4 rfl rfl) ?_
   refine o_loadn (vs := [_, _, _, _]) rfl rfl Try.underlying53 rfl ti53 (rdn_lit 0 rfl rfl) ?_
   refine o_lit e_Op_ok rfl Try.underlying28 rfl rfl rfl (lit_ok rfl) [⟨x29.f_Kind, x29.f_Key, ⟨a38, x29.f_Value.xs, c38⟩, x29.f_N⟩] rfl rfl fun a43 => ?_
   refine l_f4 ?_
   refine o_append e_Op_ok rfl rfl rfl Try.underlying28 (rds_own e_Op_ok 1 rfl) (by show (_ + _) * _ ≤ _; simp only [List.length_cons, List.length_nil]; omega) (by simp only [List.length_cons, List.length_nil]; omega) fun a44 c44 => ?_
   refine l_f1 ?_
   refine l_drop ?_
   refine o_fieldAddr (q := ⟨b3, 3, none⟩) rfl rfl Try.underlying30 rfl ti28 rfl ?_
   refine l_f4 ?_
   refine o_store1 rfl rfl rfl ti28 rfl rfl ?_
   refine l_nil ?_
   refine q_block ?_
   refine q_then ?_
   refine c_region ?_
   refine o_move rfl rfl ?_
   refine o_bin rfl rfl rfl (b_add (wrap_i64 (by omega) (by omega))) ?_
   refine o_assign rfl rfl ?_
   refine l_nil ?_
   refine q_conv (fun w S => S.perm p8) ?_
   refine q_conv (fun w S => S.perm p8) ?_
   refine q_conv (fun w S => S.perm p8) ?_
   refine q_conv (fun w S => S.perm p8) ?_
   refine q_conv (fun w S => S.perm p6) ?_
   refine q_conv (fun w S => S.perm p6) ?_
   refine q_conv (fun w S => S.perm p6) ?_
   refine q_conv (fun w S => S.perm p8) ?_
   refine q_conv (fun w S => S.perm p8) ?_
   refine q_conv (L' := stars (((os ++ [(⟨x29.f_Kind, x29.f_Key, ⟨a38, x29.f_Value.xs, c38⟩, x29.f_N⟩ : Op)]).map Op.f_Value).map (vrow e8)) :: _) (fun w S => vals_snoc (y := (⟨x29.f_Kind, x29.f_Key, ⟨a38, x29.f_Value.xs, c38⟩, x29.f_N⟩ : Op)) S) ?_
   refine q_conv (fun w S => (S.perm p3).tail) ?_
   refine q_conv (fun w S => S.perm p6) ?_
   refine q_conv (fun w S => S.perm p6) ?_
   refine q_conv (fun w S => S.perm p6) ?_
   refine q_conv (fun w S => S.perm p6) ?_
   refine q_conv (fun w S => S.perm p5) ?_
   refine q_conv (fun w S => S.perm p6) ?_
   refine q_conv (fun w S => S.perm p6) ?_
   exact q_round (i + 1, os ++ [(⟨x29.f_Kind, x29.f_Key, ⟨a38, x29.f_Value.xs, c38⟩, x29.f_N⟩ : Op)], a44, c44) (by exact ⟨by omega, by simp [hol], copied_on hso hol hx29 ⟨rfl, rfl, rfl, rfl⟩⟩) (by (try dsimp only); omega) ⟨(by first | rfl | exact vint (by omega)), (by first | rfl | exact vint (by omega)), (by first | rfl | exact vint (by omega)), (by first | rfl | exact vint (by omega)), trivial⟩ (fun w S => S)
  · -- h1F
   have h1b := h1
   try simp only [decide_eq_false_iff_not, Int.not_lt, Int.not_le] at h1
   refine c_exit ?_
   refine q_pass_exit ?_
   refine q_pass_exit ?_
   refine q_hit ?_
   refine q_then ?_
   refine c_seq ?_
   refine c_region ?_
   refine o_loadn (vs := [_, _, _, _, _]) rfl rfl Try.underlying30 rfl ti30 (rdn_lit 2 rfl rfl) ?_
   refine l_f5 ?_
   refine o_storen rfl rfl ti30 rfl rfl rfl rfl ?_
   refine l_nil ?_
   refine q_then ?_
   refine c_ret ?_
   refine f_retq (.inl rfl) (rs_1 rfl (rs_celln (vs := [.int .i64 t.f_Kind, .slice a13 (t.f_Reads.xs).length c13, .slice a17 (t.f_Writes.xs).length c17, .slice a7 (os).length c7, .int .i64 t.f_To]) rfl Try.underlying30 rfl ti30 (rdn_lit 0 rfl rfl))) (fun w S => ?_)
   replace S := S.tail
   replace S := (S.perm p2).tail
   replace S := (S.perm p4).tail
   replace S := S.perm p1
   replace S := S.perm p2
   replace S := S.perm p3
   exact ⟨_, ⟨⟨t.f_Kind, ⟨a13, t.f_Reads.xs, c13⟩, ⟨a17, t.f_Writes.xs, c17⟩, ⟨a7, os, c7⟩, t.f_To⟩, ⟨rfl, rfl, rfl, rfl, by (try dsimp only); omega, fun j x y hj => hso j x y (by (try dsimp only at hj); omega)⟩, rfl, rfl⟩, (fun w S => Sat.unflat (Ls := txL ⟨t.f_Kind, ⟨a13, t.f_Reads.xs, c13⟩, ⟨a17, t.f_Writes.xs, c17⟩, ⟨a7, os, c7⟩, t.f_To⟩) S) w S⟩

end Go.Proofs.Ytlblipkcbmcfkaa
