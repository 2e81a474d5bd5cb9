/- Texts of the proof: RCopy, OCopyR, Writes. -/
import Derived.Test.YtlblipkcbmcfkaaGreatPwF
namespace Go.Proofs.YtlblipkcbmcfkaaGreat
section
set_option linter.unusedVariables false
set_option linter.unusedSimpArgs false
set_option maxRecDepth 10000
open Go.RowKit Classical
abbrev qzRCopy1 (t : Txn) : Obj := .cells #[.int .i64 t.f_Kind, .slice t.f_Reads.a (t.f_Reads.xs).length t.f_Reads.c, .slice t.f_Writes.a (t.f_Writes.xs).length t.f_Writes.c, .slice t.f_Ops.a (t.f_Ops.xs).length t.f_Ops.c, .int .i64 t.f_To] 30 (0, 0)
abbrev qzRCopy2 : Obj := .cells #[.int .i64 0, .slice none 0 0, .slice none 0 0, .slice none 0 0, .int .i64 0] 30 (0, 0)
abbrev qzRCopy3 (t : Txn) (a13 : Option Addr) (c13 : Nat) (a17 : Option Addr) (c17 : Nat) : Obj := .cells #[.int .i64 t.f_Kind, .slice a13 (t.f_Reads.xs).length c13, .slice a17 (t.f_Writes.xs).length c17, .slice none 0 0, .int .i64 t.f_To] 30 (0, 0)
theorem copied_on {os xs : List Op} {i : Nat} {x y : Op} (h : SameOps os xs i) (hl : os.length = i) (hx : xs[((i : Int)).toNat]? = some x) (h1 : SameOp y x) : SameOps (os ++ [y]) xs (i + 1) := fun j a b hj ha hb => by
  by_cases hji : j < i
  · exact h j a b hji (by rw [List.getElem?_append_left (by omega)] at ha; exact ha) hb
  · obtain rfl : j = i := by omega
    rw [List.getElem?_append_right (by omega), hl, Nat.sub_self] at ha
    have hx' : xs[j]? = some x := hx
    rw [hx'] at hb
    simp at ha; cases hb; subst ha; exact h1
theorem copy_ {W : World} {F : List Res} {t : Txn} (T_t : TxR W F t) (small : Smalls t) : CS Tryz.prog 21 #[.agg #[.int .i64 t.f_Kind, .slice t.f_Reads.a (t.f_Reads.xs).length t.f_Reads.c, .slice t.f_Writes.a (t.f_Writes.xs).length t.f_Writes.c, .slice t.f_Ops.a (t.f_Ops.xs).length t.f_Ops.c, .int .i64 t.f_To]] W (F) (fun r L' => ∃ c : Txn, SameT c t ∧ r = .agg (e_Txn.cells c).toArray ∧ L' = txM c :: F) := by
 have hlr := small.r
 have hlw := small.w
 have hlo := small.o
 refine f_door (l0 := [(0, .agg #[.int .i64 t.f_Kind, .slice t.f_Reads.a (t.f_Reads.xs).length t.f_Reads.c, .slice t.f_Writes.a (t.f_Writes.xs).length t.f_Writes.c, .slice t.f_Ops.a (t.f_Ops.xs).length t.f_Ops.c, .int .i64 t.f_To])]) Tryz.func21 Tryz.ntmps21 rfl rfl rfl ?_
 refine c_seq ?_
 refine c_region ?_
 refine o_box rfl rfl fun b1 => ?_
 refine o_alloc rfl ti30 fun b2 => ?_
 refine l_nil ?_
 refine q_then ?_
 refine c_seq ?_
 refine c_mid (α := Nat × (Option Addr) × Nat × (Option Addr) × Nat × (Option Addr) × (Option Addr)) (fun z => [(0, .agg #[.int .i64 t.f_Kind, .slice t.f_Reads.a (t.f_Reads.xs).length t.f_Reads.c, .slice t.f_Writes.a (t.f_Writes.xs).length t.f_Writes.c, .slice t.f_Ops.a (t.f_Ops.xs).length t.f_Ops.c, .int .i64 t.f_To]), (1, .pointer (some ⟨b1, 0, none⟩)), (2, .pointer (some ⟨b2, 0, none⟩)), (3, .pointer (some ⟨z.1, 0, none⟩)), (6, .pointer (some ⟨b1, 0, none⟩)), (7, .int .i64 t.f_Kind), (8, .pointer (some ⟨b1, 4, none⟩)), (9, .int .i64 t.f_To), (10, .slice z.2.2.2.2.2.1 (([] : List ByteArray)).length 0), (11, .pointer (some ⟨b1, 1, none⟩)), (12, .slice t.f_Reads.a (t.f_Reads.xs).length t.f_Reads.c), (13, .slice z.2.1 (t.f_Reads.xs).length z.2.2.1), (14, .slice z.2.2.2.2.2.2 (([] : List ByteArray)).length 0), (15, .pointer (some ⟨b1, 2, none⟩)), (16, .slice t.f_Writes.a (t.f_Writes.xs).length t.f_Writes.c), (17, .slice z.2.2.2.1 (t.f_Writes.xs).length z.2.2.2.2.1), (18, .agg #[.int .i64 t.f_Kind, .slice z.2.1 (t.f_Reads.xs).length z.2.2.1, .slice z.2.2.2.1 (t.f_Writes.xs).length z.2.2.2.2.1, .slice none 0 0, .int .i64 t.f_To])]) (fun z => blk z.1 (.cells #[.int .i64 t.f_Kind, .slice z.2.1 (t.f_Reads.xs).length z.2.2.1, .slice z.2.2.2.1 (t.f_Writes.xs).length z.2.2.2.2.1, .slice none 0 0, .int .i64 t.f_To] 30 (0, 0)) :: row e_S.T e_S.sz z.2.2.2.1 (t.f_Writes.xs).length z.2.2.2.2.1 (flat e_S t.f_Writes.xs) :: row e_S.T e_S.sz z.2.1 (t.f_Reads.xs).length z.2.2.1 (flat e_S t.f_Reads.xs) :: blk b2 (qzRCopy2) :: blk b1 (qzRCopy1 t) :: F) (fun z => True) ?_ ?_
 · -- cut
  refine c_heldF [] (blk b2 (qzRCopy2) :: blk b1 (qzRCopy1 t) :: F) (by kernel_rfl) ?_
  refine h_take 0 rfl rfl (by kernel_rfl) (by kernel_rfl) (by kernel_rfl) (fun L0 => v_fieldAddr (q := ⟨b1, 0, none⟩) rfl rfl Tryz.underlying30 rfl ti3 rfl) ?_
  refine h_take 1 rfl rfl (by kernel_rfl) (by kernel_rfl) (by kernel_rfl) (fun L0 => v_load1 rfl rfl Tryz.underlying3 rfl (rd_mem 1 rfl rfl)) ?_
  refine h_take 2 rfl rfl (by kernel_rfl) (by kernel_rfl) (by kernel_rfl) (fun L0 => v_fieldAddr (q := ⟨b1, 4, none⟩) rfl rfl Tryz.underlying30 rfl ti3 rfl) ?_
  refine h_take 3 rfl rfl (by kernel_rfl) (by kernel_rfl) (by kernel_rfl) (fun L0 => v_load1 rfl rfl Tryz.underlying3 rfl (rd_mem 1 rfl rfl)) ?_
  refine h_take 5 rfl rfl (by kernel_rfl) (by kernel_rfl) (by kernel_rfl) (fun L0 => v_fieldAddr (q := ⟨b1, 1, none⟩) rfl rfl Tryz.underlying30 rfl ti27 rfl) ?_
  refine h_take 6 rfl rfl (by kernel_rfl) (by kernel_rfl) (by kernel_rfl) (fun L0 => v_load1 rfl rfl Tryz.underlying27 rfl (rd_mem 1 rfl rfl)) ?_
  refine h_take 9 rfl rfl (by kernel_rfl) (by kernel_rfl) (by kernel_rfl) (fun L0 => v_fieldAddr (q := ⟨b1, 2, none⟩) rfl rfl Tryz.underlying30 rfl ti27 rfl) ?_
  refine h_take 10 rfl rfl (by kernel_rfl) (by kernel_rfl) (by kernel_rfl) (fun L0 => v_load1 rfl rfl Tryz.underlying27 rfl (rd_mem 1 rfl rfl)) ?_
  refine h_many (is := [4, 8, 13]) (by kernel_rfl) (by decide) (forall_cons ⟨_, rfl, ?_⟩ (forall_cons ⟨_, rfl, ?_⟩ (forall_cons ⟨_, rfl, ?_⟩ forall_nil)))
  · -- 4 comes first
   refine l_conv (L' := blk b2 (qzRCopy2) :: blk b1 (qzRCopy1 t) :: F) (fun w S => S.perm List.perm_append_comm) ?_
   refine o_lit e_S_ok rfl Tryz.underlying27 rfl rfl rfl (lit_ok rfl) ([] : List ByteArray) rfl rfl fun a10 => ?_
   refine l_nil ?_
   refine q_conv (L' := (blk b2 (qzRCopy2) :: blk b1 (qzRCopy1 t) :: F) ++ [row e_S.T e_S.sz a10 (([] : List ByteArray)).length 0 (flat e_S ([] : List ByteArray))]) (fun w S => S.perm (List.perm_append_comm (l₁ := [row e_S.T e_S.sz a10 (([] : List ByteArray)).length 0 (flat e_S ([] : List ByteArray))]) (l₂ := blk b2 (qzRCopy2) :: blk b1 (qzRCopy1 t) :: F))) ?_
   refine h_next ?_
   refine h_many (is := [7, 8, 13]) (by kernel_rfl) (by decide) (forall_cons ⟨_, rfl, ?_⟩ (forall_cons ⟨_, rfl, ?_⟩ (forall_cons ⟨_, rfl, ?_⟩ forall_nil)))
   · -- 7 comes first
    refine l_conv (L' := row e_S.T e_S.sz a10 (([] : List ByteArray)).length 0 (flat e_S ([] : List ByteArray)) :: blk b2 (qzRCopy2) :: blk b1 (qzRCopy1 t) :: F) (fun w S => S.perm List.perm_append_comm) ?_
    refine o_append e_S_ok rfl rfl rfl Tryz.underlying27 (TxR.c (TxR.c (TxR.c T_t))).rr (by show (_ + _) * _ ≤ _; simp only [List.length_nil]; omega) (by simp only [List.length_nil]; omega) fun a13 c13 => ?_
    refine l_eq (t := 13) (v' := .slice a13 (t.f_Reads.xs).length c13) rfl (by rfl) ?_
    refine l_conv (L' := row e_S.T e_S.sz a13 (t.f_Reads.xs).length c13 (flat e_S t.f_Reads.xs) :: _) (fun w S => by exact S) ?_
    refine l_nil ?_
    refine q_conv (L' := (blk b2 (qzRCopy2) :: blk b1 (qzRCopy1 t) :: F) ++ [row e_S.T e_S.sz a13 (t.f_Reads.xs).length c13 (flat e_S t.f_Reads.xs)]) (fun w S => S.perm (List.perm_append_comm (l₁ := [row e_S.T e_S.sz a13 (t.f_Reads.xs).length c13 (flat e_S t.f_Reads.xs)]) (l₂ := blk b2 (qzRCopy2) :: blk b1 (qzRCopy1 t) :: F))) ?_
    refine h_next ?_
    refine h_many (is := [8, 13]) (by kernel_rfl) (by decide) (forall_cons ⟨_, rfl, ?_⟩ (forall_cons ⟨_, rfl, ?_⟩ forall_nil))
    · -- 8 comes first
     refine l_conv (L' := row e_S.T e_S.sz a13 (t.f_Reads.xs).length c13 (flat e_S t.f_Reads.xs) :: blk b2 (qzRCopy2) :: blk b1 (qzRCopy1 t) :: F) (fun w S => S.perm List.perm_append_comm) ?_
     refine o_lit e_S_ok rfl Tryz.underlying27 rfl rfl rfl (lit_ok rfl) ([] : List ByteArray) rfl rfl fun a14 => ?_
     refine l_nil ?_
     refine q_conv (L' := (blk b2 (qzRCopy2) :: blk b1 (qzRCopy1 t) :: F) ++ [row e_S.T e_S.sz a14 (([] : List ByteArray)).length 0 (flat e_S ([] : List ByteArray)), row e_S.T e_S.sz a13 (t.f_Reads.xs).length c13 (flat e_S t.f_Reads.xs)]) (fun w S => S.perm (List.perm_append_comm (l₁ := [row e_S.T e_S.sz a14 (([] : List ByteArray)).length 0 (flat e_S ([] : List ByteArray)), row e_S.T e_S.sz a13 (t.f_Reads.xs).length c13 (flat e_S t.f_Reads.xs)]) (l₂ := blk b2 (qzRCopy2) :: blk b1 (qzRCopy1 t) :: F))) ?_
     refine h_next ?_
     refine h_many (is := [11, 13]) (by kernel_rfl) (by decide) (forall_cons ⟨_, rfl, ?_⟩ (forall_cons ⟨_, rfl, ?_⟩ forall_nil))
     · -- 11 comes first
      refine l_conv (L' := row e_S.T e_S.sz a14 (([] : List ByteArray)).length 0 (flat e_S ([] : List ByteArray)) :: row e_S.T e_S.sz a13 (t.f_Reads.xs).length c13 (flat e_S t.f_Reads.xs) :: blk b2 (qzRCopy2) :: blk b1 (qzRCopy1 t) :: F) (fun w S => S.perm List.perm_append_comm) ?_
      refine o_append e_S_ok rfl rfl rfl Tryz.underlying27 (TxR.c (TxR.c (TxR.c (TxR.c T_t)))).rw (by show (_ + _) * _ ≤ _; simp only [List.length_nil]; omega) (by simp only [List.length_nil]; omega) fun a17 c17 => ?_
      refine l_eq (t := 17) (v' := .slice a17 (t.f_Writes.xs).length c17) rfl (by rfl) ?_
      refine l_conv (L' := row e_S.T e_S.sz a17 (t.f_Writes.xs).length c17 (flat e_S t.f_Writes.xs) :: _) (fun w S => by exact S) ?_
      refine l_nil ?_
      refine q_conv (L' := (blk b2 (qzRCopy2) :: blk b1 (qzRCopy1 t) :: F) ++ [row e_S.T e_S.sz a17 (t.f_Writes.xs).length c17 (flat e_S t.f_Writes.xs), row e_S.T e_S.sz a13 (t.f_Reads.xs).length c13 (flat e_S t.f_Reads.xs)]) (fun w S => S.perm (List.perm_append_comm (l₁ := [row e_S.T e_S.sz a17 (t.f_Writes.xs).length c17 (flat e_S t.f_Writes.xs), row e_S.T e_S.sz a13 (t.f_Reads.xs).length c13 (flat e_S t.f_Reads.xs)]) (l₂ := blk b2 (qzRCopy2) :: blk b1 (qzRCopy1 t) :: F))) ?_
      refine h_next ?_
      refine h_take 12 rfl rfl (by kernel_rfl) (by kernel_rfl) (by kernel_rfl) (fun L0 => v_build rfl sp30 ti30 rfl ((fill_cons (cells' := [.int .i64 t.f_Kind, .slice none 0 0, .slice none 0 0, .slice none 0 0, .int .i64 0]) rfl rfl rfl rfl (fill_cons (cells' := [.int .i64 t.f_Kind, .slice none 0 0, .slice none 0 0, .slice none 0 0, .int .i64 t.f_To]) rfl rfl rfl rfl (fill_cons (cells' := [.int .i64 t.f_Kind, .slice a13 (t.f_Reads.xs).length c13, .slice none 0 0, .slice none 0 0, .int .i64 t.f_To]) rfl rfl rfl rfl (fill_cons (cells' := [.int .i64 t.f_Kind, .slice a13 (t.f_Reads.xs).length c13, .slice a17 (t.f_Writes.xs).length c17, .slice none 0 0, .int .i64 t.f_To]) rfl rfl rfl rfl fill_nil)))))) ?_
      refine h_one 13 rfl (by kernel_rfl) ?_
      refine l_conv (L' := row e_S.T e_S.sz a17 (t.f_Writes.xs).length c17 (flat e_S t.f_Writes.xs) :: row e_S.T e_S.sz a13 (t.f_Reads.xs).length c13 (flat e_S t.f_Reads.xs) :: blk b2 (qzRCopy2) :: blk b1 (qzRCopy1 t) :: F) (fun w S => S.perm List.perm_append_comm) ?_
      refine o_alloc rfl ti30 fun b3 => ?_
      refine l_nil ?_
      refine q_conv (L' := (blk b2 (qzRCopy2) :: blk b1 (qzRCopy1 t) :: F) ++ [blk b3 (qzRCopy2), row e_S.T e_S.sz a17 (t.f_Writes.xs).length c17 (flat e_S t.f_Writes.xs), row e_S.T e_S.sz a13 (t.f_Reads.xs).length c13 (flat e_S t.f_Reads.xs)]) (fun w S => S.perm (List.perm_append_comm (l₁ := [blk b3 (qzRCopy2), row e_S.T e_S.sz a17 (t.f_Writes.xs).length c17 (flat e_S t.f_Writes.xs), row e_S.T e_S.sz a13 (t.f_Reads.xs).length c13 (flat e_S t.f_Reads.xs)]) (l₂ := blk b2 (qzRCopy2) :: blk b1 (qzRCopy1 t) :: F))) ?_
      refine h_next ?_
      refine h_one 14 rfl (by kernel_rfl) ?_
      refine l_conv (L' := blk b3 (qzRCopy2) :: row e_S.T e_S.sz a17 (t.f_Writes.xs).length c17 (flat e_S t.f_Writes.xs) :: row e_S.T e_S.sz a13 (t.f_Reads.xs).length c13 (flat e_S t.f_Reads.xs) :: blk b2 (qzRCopy2) :: blk b1 (qzRCopy1 t) :: F) (fun w S => S.perm List.perm_append_comm) ?_
      refine o_storen rfl rfl ti30 rfl rfl rfl rfl ?_
      refine l_nil ?_
      refine q_conv (L' := (blk b2 (qzRCopy2) :: blk b1 (qzRCopy1 t) :: F) ++ [blk b3 (qzRCopy3 t a13 c13 a17 c17), row e_S.T e_S.sz a17 (t.f_Writes.xs).length c17 (flat e_S t.f_Writes.xs), row e_S.T e_S.sz a13 (t.f_Reads.xs).length c13 (flat e_S t.f_Reads.xs)]) (fun w S => S.perm (List.perm_append_comm (l₁ := [blk b3 (qzRCopy3 t a13 c13 a17 c17), row e_S.T e_S.sz a17 (t.f_Writes.xs).length c17 (flat e_S t.f_Writes.xs), row e_S.T e_S.sz a13 (t.f_Reads.xs).length c13 (flat e_S t.f_Reads.xs)]) (l₂ := blk b2 (qzRCopy2) :: blk b1 (qzRCopy1 t) :: F))) ?_
      refine h_next ?_
      refine h_done (by kernel_rfl) ?_
      refine q_conv (L' := blk b3 (qzRCopy3 t a13 c13 a17 c17) :: row e_S.T e_S.sz a17 (t.f_Writes.xs).length c17 (flat e_S t.f_Writes.xs) :: row e_S.T e_S.sz a13 (t.f_Reads.xs).length c13 (flat e_S t.f_Reads.xs) :: blk b2 (qzRCopy2) :: blk b1 (qzRCopy1 t) :: F) (fun w S => S.perm List.perm_append_comm) ?_
      exact q_mid (b3, a13, c13, a17, c17, a10, a14) (by trivial) ⟨(by first | rfl | exact vint (by omega)), (by first | rfl | exact vint (by omega)), (by first | rfl | exact vint (by omega)), (by first | rfl | exact vint (by omega)), (by first | rfl | exact vint (by omega)), (by first | rfl | exact vint (by omega)), (by first | rfl | exact vint (by omega)), (by first | rfl | exact vint (by omega)), (by first | rfl | exact vint (by omega)), (by first | rfl | exact vint (by omega)), (by first | rfl | exact vint (by omega)), (by first | rfl | exact vint (by omega)), (by first | rfl | exact vint (by omega)), (by first | rfl | exact vint (by omega)), (by first | rfl | exact vint (by omega)), (by first | rfl | exact vint (by omega)), (by first | rfl | exact vint (by omega)), trivial⟩ (fun w S => S)
     · -- 13 comes first
      refine l_conv (L' := row e_S.T e_S.sz a14 (([] : List ByteArray)).length 0 (flat e_S ([] : List ByteArray)) :: row e_S.T e_S.sz a13 (t.f_Reads.xs).length c13 (flat e_S t.f_Reads.xs) :: blk b2 (qzRCopy2) :: blk b1 (qzRCopy1 t) :: F) (fun w S => S.perm List.perm_append_comm) ?_
      refine o_alloc rfl ti30 fun b3 => ?_
      refine l_nil ?_
      refine q_conv (L' := (blk b2 (qzRCopy2) :: blk b1 (qzRCopy1 t) :: F) ++ [blk b3 (qzRCopy2), row e_S.T e_S.sz a14 (([] : List ByteArray)).length 0 (flat e_S ([] : List ByteArray)), row e_S.T e_S.sz a13 (t.f_Reads.xs).length c13 (flat e_S t.f_Reads.xs)]) (fun w S => S.perm (List.perm_append_comm (l₁ := [blk b3 (qzRCopy2), row e_S.T e_S.sz a14 (([] : List ByteArray)).length 0 (flat e_S ([] : List ByteArray)), row e_S.T e_S.sz a13 (t.f_Reads.xs).length c13 (flat e_S t.f_Reads.xs)]) (l₂ := blk b2 (qzRCopy2) :: blk b1 (qzRCopy1 t) :: F))) ?_
      refine h_next ?_
      refine h_one 11 rfl (by kernel_rfl) ?_
      refine l_conv (L' := blk b3 (qzRCopy2) :: row e_S.T e_S.sz a14 (([] : List ByteArray)).length 0 (flat e_S ([] : List ByteArray)) :: row e_S.T e_S.sz a13 (t.f_Reads.xs).length c13 (flat e_S t.f_Reads.xs) :: blk b2 (qzRCopy2) :: blk b1 (qzRCopy1 t) :: F) (fun w S => S.perm List.perm_append_comm) ?_
      refine l_f1 ?_
      refine o_append e_S_ok rfl rfl rfl Tryz.underlying27 (TxR.c (TxR.c (TxR.c (TxR.c (TxR.c T_t))))).rw (by show (_ + _) * _ ≤ _; simp only [List.length_nil]; omega) (by simp only [List.length_nil]; omega) fun a17 c17 => ?_
      refine l_eq (t := 17) (v' := .slice a17 (t.f_Writes.xs).length c17) rfl (by rfl) ?_
      refine l_conv (L' := row e_S.T e_S.sz a17 (t.f_Writes.xs).length c17 (flat e_S t.f_Writes.xs) :: _) (fun w S => by exact S) ?_
      refine l_nil ?_
      refine q_conv (L' := (blk b2 (qzRCopy2) :: blk b1 (qzRCopy1 t) :: F) ++ [row e_S.T e_S.sz a17 (t.f_Writes.xs).length c17 (flat e_S t.f_Writes.xs), blk b3 (qzRCopy2), row e_S.T e_S.sz a13 (t.f_Reads.xs).length c13 (flat e_S t.f_Reads.xs)]) (fun w S => S.perm (List.perm_append_comm (l₁ := [row e_S.T e_S.sz a17 (t.f_Writes.xs).length c17 (flat e_S t.f_Writes.xs), blk b3 (qzRCopy2), row e_S.T e_S.sz a13 (t.f_Reads.xs).length c13 (flat e_S t.f_Reads.xs)]) (l₂ := blk b2 (qzRCopy2) :: blk b1 (qzRCopy1 t) :: F))) ?_
      refine h_next ?_
      refine h_take 12 rfl rfl (by kernel_rfl) (by kernel_rfl) (by kernel_rfl) (fun L0 => v_build rfl sp30 ti30 rfl ((fill_cons (cells' := [.int .i64 t.f_Kind, .slice none 0 0, .slice none 0 0, .slice none 0 0, .int .i64 0]) rfl rfl rfl rfl (fill_cons (cells' := [.int .i64 t.f_Kind, .slice none 0 0, .slice none 0 0, .slice none 0 0, .int .i64 t.f_To]) rfl rfl rfl rfl (fill_cons (cells' := [.int .i64 t.f_Kind, .slice a13 (t.f_Reads.xs).length c13, .slice none 0 0, .slice none 0 0, .int .i64 t.f_To]) rfl rfl rfl rfl (fill_cons (cells' := [.int .i64 t.f_Kind, .slice a13 (t.f_Reads.xs).length c13, .slice a17 (t.f_Writes.xs).length c17, .slice none 0 0, .int .i64 t.f_To]) rfl rfl rfl rfl fill_nil)))))) ?_
      refine h_one 14 rfl (by kernel_rfl) ?_
      refine l_conv (L' := row e_S.T e_S.sz a17 (t.f_Writes.xs).length c17 (flat e_S t.f_Writes.xs) :: blk b3 (qzRCopy2) :: row e_S.T e_S.sz a13 (t.f_Reads.xs).length c13 (flat e_S t.f_Reads.xs) :: blk b2 (qzRCopy2) :: blk b1 (qzRCopy1 t) :: F) (fun w S => S.perm List.perm_append_comm) ?_
      refine l_f1 ?_
      refine o_storen rfl rfl ti30 rfl rfl rfl rfl ?_
      refine l_nil ?_
      refine q_conv (L' := (blk b2 (qzRCopy2) :: blk b1 (qzRCopy1 t) :: F) ++ [blk b3 (qzRCopy3 t a13 c13 a17 c17), row e_S.T e_S.sz a17 (t.f_Writes.xs).length c17 (flat e_S t.f_Writes.xs), row e_S.T e_S.sz a13 (t.f_Reads.xs).length c13 (flat e_S t.f_Reads.xs)]) (fun w S => S.perm (List.perm_append_comm (l₁ := [blk b3 (qzRCopy3 t a13 c13 a17 c17), row e_S.T e_S.sz a17 (t.f_Writes.xs).length c17 (flat e_S t.f_Writes.xs), row e_S.T e_S.sz a13 (t.f_Reads.xs).length c13 (flat e_S t.f_Reads.xs)]) (l₂ := blk b2 (qzRCopy2) :: blk b1 (qzRCopy1 t) :: F))) ?_
      refine h_next ?_
      refine h_done (by kernel_rfl) ?_
      refine q_conv (L' := blk b3 (qzRCopy3 t a13 c13 a17 c17) :: row e_S.T e_S.sz a17 (t.f_Writes.xs).length c17 (flat e_S t.f_Writes.xs) :: row e_S.T e_S.sz a13 (t.f_Reads.xs).length c13 (flat e_S t.f_Reads.xs) :: blk b2 (qzRCopy2) :: blk b1 (qzRCopy1 t) :: F) (fun w S => S.perm List.perm_append_comm) ?_
      exact q_mid (b3, a13, c13, a17, c17, a10, a14) (by trivial) ⟨(by first | rfl | exact vint (by omega)), (by first | rfl | exact vint (by omega)), (by first | rfl | exact vint (by omega)), (by first | rfl | exact vint (by omega)), (by first | rfl | exact vint (by omega)), (by first | rfl | exact vint (by omega)), (by first | rfl | exact vint (by omega)), (by first | rfl | exact vint (by omega)), (by first | rfl | exact vint (by omega)), (by first | rfl | exact vint (by omega)), (by first | rfl | exact vint (by omega)), (by first | rfl | exact vint (by omega)), (by first | rfl | exact vint (by omega)), (by first | rfl | exact vint (by omega)), (by first | rfl | exact vint (by omega)), (by first | rfl | exact vint (by omega)), (by first | rfl | exact vint (by omega)), trivial⟩ (fun w S => S)
    · -- 13 comes first
     refine l_conv (L' := row e_S.T e_S.sz a13 (t.f_Reads.xs).length c13 (flat e_S t.f_Reads.xs) :: blk b2 (qzRCopy2) :: blk b1 (qzRCopy1 t) :: F) (fun w S => S.perm List.perm_append_comm) ?_
     refine o_alloc rfl ti30 fun b3 => ?_
     refine l_nil ?_
     refine q_conv (L' := (blk b2 (qzRCopy2) :: blk b1 (qzRCopy1 t) :: F) ++ [blk b3 (qzRCopy2), row e_S.T e_S.sz a13 (t.f_Reads.xs).length c13 (flat e_S t.f_Reads.xs)]) (fun w S => S.perm (List.perm_append_comm (l₁ := [blk b3 (qzRCopy2), row e_S.T e_S.sz a13 (t.f_Reads.xs).length c13 (flat e_S t.f_Reads.xs)]) (l₂ := blk b2 (qzRCopy2) :: blk b1 (qzRCopy1 t) :: F))) ?_
     refine h_next ?_
     refine h_one 8 rfl (by kernel_rfl) ?_
     refine l_conv (L' := blk b3 (qzRCopy2) :: row e_S.T e_S.sz a13 (t.f_Reads.xs).length c13 (flat e_S t.f_Reads.xs) :: blk b2 (qzRCopy2) :: blk b1 (qzRCopy1 t) :: F) (fun w S => S.perm List.perm_append_comm) ?_
     refine o_lit e_S_ok rfl Tryz.underlying27 rfl rfl rfl (lit_ok rfl) ([] : List ByteArray) rfl rfl fun a14 => ?_
     refine l_nil ?_
     refine q_conv (L' := (blk b2 (qzRCopy2) :: blk b1 (qzRCopy1 t) :: F) ++ [row e_S.T e_S.sz a14 (([] : List ByteArray)).length 0 (flat e_S ([] : List ByteArray)), blk b3 (qzRCopy2), row e_S.T e_S.sz a13 (t.f_Reads.xs).length c13 (flat e_S t.f_Reads.xs)]) (fun w S => S.perm (List.perm_append_comm (l₁ := [row e_S.T e_S.sz a14 (([] : List ByteArray)).length 0 (flat e_S ([] : List ByteArray)), blk b3 (qzRCopy2), row e_S.T e_S.sz a13 (t.f_Reads.xs).length c13 (flat e_S t.f_Reads.xs)]) (l₂ := blk b2 (qzRCopy2) :: blk b1 (qzRCopy1 t) :: F))) ?_
     refine h_next ?_
     refine h_one 11 rfl (by kernel_rfl) ?_
     refine l_conv (L' := row e_S.T e_S.sz a14 (([] : List ByteArray)).length 0 (flat e_S ([] : List ByteArray)) :: blk b3 (qzRCopy2) :: row e_S.T e_S.sz a13 (t.f_Reads.xs).length c13 (flat e_S t.f_Reads.xs) :: blk b2 (qzRCopy2) :: blk b1 (qzRCopy1 t) :: F) (fun w S => S.perm List.perm_append_comm) ?_
     refine o_append e_S_ok rfl rfl rfl Tryz.underlying27 (TxR.c (TxR.c (TxR.c (TxR.c (TxR.c T_t))))).rw (by show (_ + _) * _ ≤ _; simp only [List.length_nil]; omega) (by simp only [List.length_nil]; omega) fun a17 c17 => ?_
     refine l_eq (t := 17) (v' := .slice a17 (t.f_Writes.xs).length c17) rfl (by rfl) ?_
     refine l_conv (L' := row e_S.T e_S.sz a17 (t.f_Writes.xs).length c17 (flat e_S t.f_Writes.xs) :: _) (fun w S => by exact S) ?_
     refine l_nil ?_
     refine q_conv (L' := (blk b2 (qzRCopy2) :: blk b1 (qzRCopy1 t) :: F) ++ [row e_S.T e_S.sz a17 (t.f_Writes.xs).length c17 (flat e_S t.f_Writes.xs), blk b3 (qzRCopy2), row e_S.T e_S.sz a13 (t.f_Reads.xs).length c13 (flat e_S t.f_Reads.xs)]) (fun w S => S.perm (List.perm_append_comm (l₁ := [row e_S.T e_S.sz a17 (t.f_Writes.xs).length c17 (flat e_S t.f_Writes.xs), blk b3 (qzRCopy2), row e_S.T e_S.sz a13 (t.f_Reads.xs).length c13 (flat e_S t.f_Reads.xs)]) (l₂ := blk b2 (qzRCopy2) :: blk b1 (qzRCopy1 t) :: F))) ?_
     refine h_next ?_
     refine h_take 12 rfl rfl (by kernel_rfl) (by kernel_rfl) (by kernel_rfl) (fun L0 => v_build rfl sp30 ti30 rfl ((fill_cons (cells' := [.int .i64 t.f_Kind, .slice none 0 0, .slice none 0 0, .slice none 0 0, .int .i64 0]) rfl rfl rfl rfl (fill_cons (cells' := [.int .i64 t.f_Kind, .slice none 0 0, .slice none 0 0, .slice none 0 0, .int .i64 t.f_To]) rfl rfl rfl rfl (fill_cons (cells' := [.int .i64 t.f_Kind, .slice a13 (t.f_Reads.xs).length c13, .slice none 0 0, .slice none 0 0, .int .i64 t.f_To]) rfl rfl rfl rfl (fill_cons (cells' := [.int .i64 t.f_Kind, .slice a13 (t.f_Reads.xs).length c13, .slice a17 (t.f_Writes.xs).length c17, .slice none 0 0, .int .i64 t.f_To]) rfl rfl rfl rfl fill_nil)))))) ?_
     refine h_one 14 rfl (by kernel_rfl) ?_
     refine l_conv (L' := row e_S.T e_S.sz a17 (t.f_Writes.xs).length c17 (flat e_S t.f_Writes.xs) :: blk b3 (qzRCopy2) :: row e_S.T e_S.sz a13 (t.f_Reads.xs).length c13 (flat e_S t.f_Reads.xs) :: blk b2 (qzRCopy2) :: blk b1 (qzRCopy1 t) :: F) (fun w S => S.perm List.perm_append_comm) ?_
     refine l_f1 ?_
     refine o_storen rfl rfl ti30 rfl rfl rfl rfl ?_
     refine l_nil ?_
     refine q_conv (L' := (blk b2 (qzRCopy2) :: blk b1 (qzRCopy1 t) :: F) ++ [blk b3 (qzRCopy3 t a13 c13 a17 c17), row e_S.T e_S.sz a17 (t.f_Writes.xs).length c17 (flat e_S t.f_Writes.xs), row e_S.T e_S.sz a13 (t.f_Reads.xs).length c13 (flat e_S t.f_Reads.xs)]) (fun w S => S.perm (List.perm_append_comm (l₁ := [blk b3 (qzRCopy3 t a13 c13 a17 c17), row e_S.T e_S.sz a17 (t.f_Writes.xs).length c17 (flat e_S t.f_Writes.xs), row e_S.T e_S.sz a13 (t.f_Reads.xs).length c13 (flat e_S t.f_Reads.xs)]) (l₂ := blk b2 (qzRCopy2) :: blk b1 (qzRCopy1 t) :: F))) ?_
     refine h_next ?_
     refine h_done (by kernel_rfl) ?_
     refine q_conv (L' := blk b3 (qzRCopy3 t a13 c13 a17 c17) :: row e_S.T e_S.sz a17 (t.f_Writes.xs).length c17 (flat e_S t.f_Writes.xs) :: row e_S.T e_S.sz a13 (t.f_Reads.xs).length c13 (flat e_S t.f_Reads.xs) :: blk b2 (qzRCopy2) :: blk b1 (qzRCopy1 t) :: F) (fun w S => S.perm List.perm_append_comm) ?_
     exact q_mid (b3, a13, c13, a17, c17, a10, a14) (by trivial) ⟨(by first | rfl | exact vint (by omega)), (by first | rfl | exact vint (by omega)), (by first | rfl | exact vint (by omega)), (by first | rfl | exact vint (by omega)), (by first | rfl | exact vint (by omega)), (by first | rfl | exact vint (by omega)), (by first | rfl | exact vint (by omega)), (by first | rfl | exact vint (by omega)), (by first | rfl | exact vint (by omega)), (by first | rfl | exact vint (by omega)), (by first | rfl | exact vint (by omega)), (by first | rfl | exact vint (by omega)), (by first | rfl | exact vint (by omega)), (by first | rfl | exact vint (by omega)), (by first | rfl | exact vint (by omega)), (by first | rfl | exact vint (by omega)), (by first | rfl | exact vint (by omega)), trivial⟩ (fun w S => S)
   · -- 8 comes first
    refine l_conv (L' := row e_S.T e_S.sz a10 (([] : List ByteArray)).length 0 (flat e_S ([] : List ByteArray)) :: blk b2 (qzRCopy2) :: blk b1 (qzRCopy1 t) :: F) (fun w S => S.perm List.perm_append_comm) ?_
    refine o_lit e_S_ok rfl Tryz.underlying27 rfl rfl rfl (lit_ok rfl) ([] : List ByteArray) rfl rfl fun a14 => ?_
    refine l_nil ?_
    refine q_conv (L' := (blk b2 (qzRCopy2) :: blk b1 (qzRCopy1 t) :: F) ++ [row e_S.T e_S.sz a14 (([] : List ByteArray)).length 0 (flat e_S ([] : List ByteArray)), row e_S.T e_S.sz a10 (([] : List ByteArray)).length 0 (flat e_S ([] : List ByteArray))]) (fun w S => S.perm (List.perm_append_comm (l₁ := [row e_S.T e_S.sz a14 (([] : List ByteArray)).length 0 (flat e_S ([] : List ByteArray)), row e_S.T e_S.sz a10 (([] : List ByteArray)).length 0 (flat e_S ([] : List ByteArray))]) (l₂ := blk b2 (qzRCopy2) :: blk b1 (qzRCopy1 t) :: F))) ?_
    refine h_next ?_
    refine h_many (is := [7, 13]) (by kernel_rfl) (by decide) (forall_cons ⟨_, rfl, ?_⟩ (forall_cons ⟨_, rfl, ?_⟩ forall_nil))
    · -- 7 comes first
     refine l_conv (L' := row e_S.T e_S.sz a14 (([] : List ByteArray)).length 0 (flat e_S ([] : List ByteArray)) :: row e_S.T e_S.sz a10 (([] : List ByteArray)).length 0 (flat e_S ([] : List ByteArray)) :: blk b2 (qzRCopy2) :: blk b1 (qzRCopy1 t) :: F) (fun w S => S.perm List.perm_append_comm) ?_
     refine l_f1 ?_
     refine o_append e_S_ok rfl rfl rfl Tryz.underlying27 (TxR.c (TxR.c (TxR.c (TxR.c T_t)))).rr (by show (_ + _) * _ ≤ _; simp only [List.length_nil]; omega) (by simp only [List.length_nil]; omega) fun a13 c13 => ?_
     refine l_eq (t := 13) (v' := .slice a13 (t.f_Reads.xs).length c13) rfl (by rfl) ?_
     refine l_conv (L' := row e_S.T e_S.sz a13 (t.f_Reads.xs).length c13 (flat e_S t.f_Reads.xs) :: _) (fun w S => by exact S) ?_
     refine l_nil ?_
     refine q_conv (L' := (blk b2 (qzRCopy2) :: blk b1 (qzRCopy1 t) :: F) ++ [row e_S.T e_S.sz a13 (t.f_Reads.xs).length c13 (flat e_S t.f_Reads.xs), row e_S.T e_S.sz a14 (([] : List ByteArray)).length 0 (flat e_S ([] : List ByteArray))]) (fun w S => S.perm (List.perm_append_comm (l₁ := [row e_S.T e_S.sz a13 (t.f_Reads.xs).length c13 (flat e_S t.f_Reads.xs), row e_S.T e_S.sz a14 (([] : List ByteArray)).length 0 (flat e_S ([] : List ByteArray))]) (l₂ := blk b2 (qzRCopy2) :: blk b1 (qzRCopy1 t) :: F))) ?_
     refine h_next ?_
     refine h_many (is := [11, 13]) (by kernel_rfl) (by decide) (forall_cons ⟨_, rfl, ?_⟩ (forall_cons ⟨_, rfl, ?_⟩ forall_nil))
     · -- 11 comes first
      refine l_conv (L' := row e_S.T e_S.sz a13 (t.f_Reads.xs).length c13 (flat e_S t.f_Reads.xs) :: row e_S.T e_S.sz a14 (([] : List ByteArray)).length 0 (flat e_S ([] : List ByteArray)) :: blk b2 (qzRCopy2) :: blk b1 (qzRCopy1 t) :: F) (fun w S => S.perm List.perm_append_comm) ?_
      refine l_f1 ?_
      refine o_append e_S_ok rfl rfl rfl Tryz.underlying27 (TxR.c (TxR.c (TxR.c (TxR.c T_t)))).rw (by show (_ + _) * _ ≤ _; simp only [List.length_nil]; omega) (by simp only [List.length_nil]; omega) fun a17 c17 => ?_
      refine l_eq (t := 17) (v' := .slice a17 (t.f_Writes.xs).length c17) rfl (by rfl) ?_
      refine l_conv (L' := row e_S.T e_S.sz a17 (t.f_Writes.xs).length c17 (flat e_S t.f_Writes.xs) :: _) (fun w S => by exact S) ?_
      refine l_nil ?_
      refine q_conv (L' := (blk b2 (qzRCopy2) :: blk b1 (qzRCopy1 t) :: F) ++ [row e_S.T e_S.sz a17 (t.f_Writes.xs).length c17 (flat e_S t.f_Writes.xs), row e_S.T e_S.sz a13 (t.f_Reads.xs).length c13 (flat e_S t.f_Reads.xs)]) (fun w S => S.perm (List.perm_append_comm (l₁ := [row e_S.T e_S.sz a17 (t.f_Writes.xs).length c17 (flat e_S t.f_Writes.xs), row e_S.T e_S.sz a13 (t.f_Reads.xs).length c13 (flat e_S t.f_Reads.xs)]) (l₂ := blk b2 (qzRCopy2) :: blk b1 (qzRCopy1 t) :: F))) ?_
      refine h_next ?_
      refine h_take 12 rfl rfl (by kernel_rfl) (by kernel_rfl) (by kernel_rfl) (fun L0 => v_build rfl sp30 ti30 rfl ((fill_cons (cells' := [.int .i64 t.f_Kind, .slice none 0 0, .slice none 0 0, .slice none 0 0, .int .i64 0]) rfl rfl rfl rfl (fill_cons (cells' := [.int .i64 t.f_Kind, .slice none 0 0, .slice none 0 0, .slice none 0 0, .int .i64 t.f_To]) rfl rfl rfl rfl (fill_cons (cells' := [.int .i64 t.f_Kind, .slice a13 (t.f_Reads.xs).length c13, .slice none 0 0, .slice none 0 0, .int .i64 t.f_To]) rfl rfl rfl rfl (fill_cons (cells' := [.int .i64 t.f_Kind, .slice a13 (t.f_Reads.xs).length c13, .slice a17 (t.f_Writes.xs).length c17, .slice none 0 0, .int .i64 t.f_To]) rfl rfl rfl rfl fill_nil)))))) ?_
      refine h_one 13 rfl (by kernel_rfl) ?_
      refine l_conv (L' := row e_S.T e_S.sz a17 (t.f_Writes.xs).length c17 (flat e_S t.f_Writes.xs) :: row e_S.T e_S.sz a13 (t.f_Reads.xs).length c13 (flat e_S t.f_Reads.xs) :: blk b2 (qzRCopy2) :: blk b1 (qzRCopy1 t) :: F) (fun w S => S.perm List.perm_append_comm) ?_
      refine o_alloc rfl ti30 fun b3 => ?_
      refine l_nil ?_
      refine q_conv (L' := (blk b2 (qzRCopy2) :: blk b1 (qzRCopy1 t) :: F) ++ [blk b3 (qzRCopy2), row e_S.T e_S.sz a17 (t.f_Writes.xs).length c17 (flat e_S t.f_Writes.xs), row e_S.T e_S.sz a13 (t.f_Reads.xs).length c13 (flat e_S t.f_Reads.xs)]) (fun w S => S.perm (List.perm_append_comm (l₁ := [blk b3 (qzRCopy2), row e_S.T e_S.sz a17 (t.f_Writes.xs).length c17 (flat e_S t.f_Writes.xs), row e_S.T e_S.sz a13 (t.f_Reads.xs).length c13 (flat e_S t.f_Reads.xs)]) (l₂ := blk b2 (qzRCopy2) :: blk b1 (qzRCopy1 t) :: F))) ?_
      refine h_next ?_
      refine h_one 14 rfl (by kernel_rfl) ?_
      refine l_conv (L' := blk b3 (qzRCopy2) :: row e_S.T e_S.sz a17 (t.f_Writes.xs).length c17 (flat e_S t.f_Writes.xs) :: row e_S.T e_S.sz a13 (t.f_Reads.xs).length c13 (flat e_S t.f_Reads.xs) :: blk b2 (qzRCopy2) :: blk b1 (qzRCopy1 t) :: F) (fun w S => S.perm List.perm_append_comm) ?_
      refine o_storen rfl rfl ti30 rfl rfl rfl rfl ?_
      refine l_nil ?_
      refine q_conv (L' := (blk b2 (qzRCopy2) :: blk b1 (qzRCopy1 t) :: F) ++ [blk b3 (qzRCopy3 t a13 c13 a17 c17), row e_S.T e_S.sz a17 (t.f_Writes.xs).length c17 (flat e_S t.f_Writes.xs), row e_S.T e_S.sz a13 (t.f_Reads.xs).length c13 (flat e_S t.f_Reads.xs)]) (fun w S => S.perm (List.perm_append_comm (l₁ := [blk b3 (qzRCopy3 t a13 c13 a17 c17), row e_S.T e_S.sz a17 (t.f_Writes.xs).length c17 (flat e_S t.f_Writes.xs), row e_S.T e_S.sz a13 (t.f_Reads.xs).length c13 (flat e_S t.f_Reads.xs)]) (l₂ := blk b2 (qzRCopy2) :: blk b1 (qzRCopy1 t) :: F))) ?_
      refine h_next ?_
      refine h_done (by kernel_rfl) ?_
      refine q_conv (L' := blk b3 (qzRCopy3 t a13 c13 a17 c17) :: row e_S.T e_S.sz a17 (t.f_Writes.xs).length c17 (flat e_S t.f_Writes.xs) :: row e_S.T e_S.sz a13 (t.f_Reads.xs).length c13 (flat e_S t.f_Reads.xs) :: blk b2 (qzRCopy2) :: blk b1 (qzRCopy1 t) :: F) (fun w S => S.perm List.perm_append_comm) ?_
      exact q_mid (b3, a13, c13, a17, c17, a10, a14) (by trivial) ⟨(by first | rfl | exact vint (by omega)), (by first | rfl | exact vint (by omega)), (by first | rfl | exact vint (by omega)), (by first | rfl | exact vint (by omega)), (by first | rfl | exact vint (by omega)), (by first | rfl | exact vint (by omega)), (by first | rfl | exact vint (by omega)), (by first | rfl | exact vint (by omega)), (by first | rfl | exact vint (by omega)), (by first | rfl | exact vint (by omega)), (by first | rfl | exact vint (by omega)), (by first | rfl | exact vint (by omega)), (by first | rfl | exact vint (by omega)), (by first | rfl | exact vint (by omega)), (by first | rfl | exact vint (by omega)), (by first | rfl | exact vint (by omega)), (by first | rfl | exact vint (by omega)), trivial⟩ (fun w S => S)
     · -- 13 comes first
      refine l_conv (L' := row e_S.T e_S.sz a13 (t.f_Reads.xs).length c13 (flat e_S t.f_Reads.xs) :: row e_S.T e_S.sz a14 (([] : List ByteArray)).length 0 (flat e_S ([] : List ByteArray)) :: blk b2 (qzRCopy2) :: blk b1 (qzRCopy1 t) :: F) (fun w S => S.perm List.perm_append_comm) ?_
      refine o_alloc rfl ti30 fun b3 => ?_
      refine l_nil ?_
      refine q_conv (L' := (blk b2 (qzRCopy2) :: blk b1 (qzRCopy1 t) :: F) ++ [blk b3 (qzRCopy2), row e_S.T e_S.sz a13 (t.f_Reads.xs).length c13 (flat e_S t.f_Reads.xs), row e_S.T e_S.sz a14 (([] : List ByteArray)).length 0 (flat e_S ([] : List ByteArray))]) (fun w S => S.perm (List.perm_append_comm (l₁ := [blk b3 (qzRCopy2), row e_S.T e_S.sz a13 (t.f_Reads.xs).length c13 (flat e_S t.f_Reads.xs), row e_S.T e_S.sz a14 (([] : List ByteArray)).length 0 (flat e_S ([] : List ByteArray))]) (l₂ := blk b2 (qzRCopy2) :: blk b1 (qzRCopy1 t) :: F))) ?_
      refine h_next ?_
      refine h_one 11 rfl (by kernel_rfl) ?_
      refine l_conv (L' := blk b3 (qzRCopy2) :: row e_S.T e_S.sz a13 (t.f_Reads.xs).length c13 (flat e_S t.f_Reads.xs) :: row e_S.T e_S.sz a14 (([] : List ByteArray)).length 0 (flat e_S ([] : List ByteArray)) :: blk b2 (qzRCopy2) :: blk b1 (qzRCopy1 t) :: F) (fun w S => S.perm List.perm_append_comm) ?_
      refine l_f2 ?_
      refine o_append e_S_ok rfl rfl rfl Tryz.underlying27 (TxR.c (TxR.c (TxR.c (TxR.c (TxR.c T_t))))).rw (by show (_ + _) * _ ≤ _; simp only [List.length_nil]; omega) (by simp only [List.length_nil]; omega) fun a17 c17 => ?_
      refine l_eq (t := 17) (v' := .slice a17 (t.f_Writes.xs).length c17) rfl (by rfl) ?_
      refine l_conv (L' := row e_S.T e_S.sz a17 (t.f_Writes.xs).length c17 (flat e_S t.f_Writes.xs) :: _) (fun w S => by exact S) ?_
      refine l_nil ?_
      refine q_conv (L' := (blk b2 (qzRCopy2) :: blk b1 (qzRCopy1 t) :: F) ++ [row e_S.T e_S.sz a17 (t.f_Writes.xs).length c17 (flat e_S t.f_Writes.xs), blk b3 (qzRCopy2), row e_S.T e_S.sz a13 (t.f_Reads.xs).length c13 (flat e_S t.f_Reads.xs)]) (fun w S => S.perm (List.perm_append_comm (l₁ := [row e_S.T e_S.sz a17 (t.f_Writes.xs).length c17 (flat e_S t.f_Writes.xs), blk b3 (qzRCopy2), row e_S.T e_S.sz a13 (t.f_Reads.xs).length c13 (flat e_S t.f_Reads.xs)]) (l₂ := blk b2 (qzRCopy2) :: blk b1 (qzRCopy1 t) :: F))) ?_
      refine h_next ?_
      refine h_take 12 rfl rfl (by kernel_rfl) (by kernel_rfl) (by kernel_rfl) (fun L0 => v_build rfl sp30 ti30 rfl ((fill_cons (cells' := [.int .i64 t.f_Kind, .slice none 0 0, .slice none 0 0, .slice none 0 0, .int .i64 0]) rfl rfl rfl rfl (fill_cons (cells' := [.int .i64 t.f_Kind, .slice none 0 0, .slice none 0 0, .slice none 0 0, .int .i64 t.f_To]) rfl rfl rfl rfl (fill_cons (cells' := [.int .i64 t.f_Kind, .slice a13 (t.f_Reads.xs).length c13, .slice none 0 0, .slice none 0 0, .int .i64 t.f_To]) rfl rfl rfl rfl (fill_cons (cells' := [.int .i64 t.f_Kind, .slice a13 (t.f_Reads.xs).length c13, .slice a17 (t.f_Writes.xs).length c17, .slice none 0 0, .int .i64 t.f_To]) rfl rfl rfl rfl fill_nil)))))) ?_
      refine h_one 14 rfl (by kernel_rfl) ?_
      refine l_conv (L' := row e_S.T e_S.sz a17 (t.f_Writes.xs).length c17 (flat e_S t.f_Writes.xs) :: blk b3 (qzRCopy2) :: row e_S.T e_S.sz a13 (t.f_Reads.xs).length c13 (flat e_S t.f_Reads.xs) :: blk b2 (qzRCopy2) :: blk b1 (qzRCopy1 t) :: F) (fun w S => S.perm List.perm_append_comm) ?_
      refine l_f1 ?_
      refine o_storen rfl rfl ti30 rfl rfl rfl rfl ?_
      refine l_nil ?_
      refine q_conv (L' := (blk b2 (qzRCopy2) :: blk b1 (qzRCopy1 t) :: F) ++ [blk b3 (qzRCopy3 t a13 c13 a17 c17), row e_S.T e_S.sz a17 (t.f_Writes.xs).length c17 (flat e_S t.f_Writes.xs), row e_S.T e_S.sz a13 (t.f_Reads.xs).length c13 (flat e_S t.f_Reads.xs)]) (fun w S => S.perm (List.perm_append_comm (l₁ := [blk b3 (qzRCopy3 t a13 c13 a17 c17), row e_S.T e_S.sz a17 (t.f_Writes.xs).length c17 (flat e_S t.f_Writes.xs), row e_S.T e_S.sz a13 (t.f_Reads.xs).length c13 (flat e_S t.f_Reads.xs)]) (l₂ := blk b2 (qzRCopy2) :: blk b1 (qzRCopy1 t) :: F))) ?_
      refine h_next ?_
      refine h_done (by kernel_rfl) ?_
      refine q_conv (L' := blk b3 (qzRCopy3 t a13 c13 a17 c17) :: row e_S.T e_S.sz a17 (t.f_Writes.xs).length c17 (flat e_S t.f_Writes.xs) :: row e_S.T e_S.sz a13 (t.f_Reads.xs).length c13 (flat e_S t.f_Reads.xs) :: blk b2 (qzRCopy2) :: blk b1 (qzRCopy1 t) :: F) (fun w S => S.perm List.perm_append_comm) ?_
      exact q_mid (b3, a13, c13, a17, c17, a10, a14) (by trivial) ⟨(by first | rfl | exact vint (by omega)), (by first | rfl | exact vint (by omega)), (by first | rfl | exact vint (by omega)), (by first | rfl | exact vint (by omega)), (by first | rfl | exact vint (by omega)), (by first | rfl | exact vint (by omega)), (by first | rfl | exact vint (by omega)), (by first | rfl | exact vint (by omega)), (by first | rfl | exact vint (by omega)), (by first | rfl | exact vint (by omega)), (by first | rfl | exact vint (by omega)), (by first | rfl | exact vint (by omega)), (by first | rfl | exact vint (by omega)), (by first | rfl | exact vint (by omega)), (by first | rfl | exact vint (by omega)), (by first | rfl | exact vint (by omega)), (by first | rfl | exact vint (by omega)), trivial⟩ (fun w S => S)
    · -- 13 comes first
     refine l_conv (L' := row e_S.T e_S.sz a14 (([] : List ByteArray)).length 0 (flat e_S ([] : List ByteArray)) :: row e_S.T e_S.sz a10 (([] : List ByteArray)).length 0 (flat e_S ([] : List ByteArray)) :: blk b2 (qzRCopy2) :: blk b1 (qzRCopy1 t) :: F) (fun w S => S.perm List.perm_append_comm) ?_
     refine o_alloc rfl ti30 fun b3 => ?_
     refine l_nil ?_
     refine q_conv (L' := (blk b2 (qzRCopy2) :: blk b1 (qzRCopy1 t) :: F) ++ [blk b3 (qzRCopy2), row e_S.T e_S.sz a14 (([] : List ByteArray)).length 0 (flat e_S ([] : List ByteArray)), row e_S.T e_S.sz a10 (([] : List ByteArray)).length 0 (flat e_S ([] : List ByteArray))]) (fun w S => S.perm (List.perm_append_comm (l₁ := [blk b3 (qzRCopy2), row e_S.T e_S.sz a14 (([] : List ByteArray)).length 0 (flat e_S ([] : List ByteArray)), row e_S.T e_S.sz a10 (([] : List ByteArray)).length 0 (flat e_S ([] : List ByteArray))]) (l₂ := blk b2 (qzRCopy2) :: blk b1 (qzRCopy1 t) :: F))) ?_
     refine h_next ?_
     refine h_one 7 rfl (by kernel_rfl) ?_
     refine l_conv (L' := blk b3 (qzRCopy2) :: row e_S.T e_S.sz a14 (([] : List ByteArray)).length 0 (flat e_S ([] : List ByteArray)) :: row e_S.T e_S.sz a10 (([] : List ByteArray)).length 0 (flat e_S ([] : List ByteArray)) :: blk b2 (qzRCopy2) :: blk b1 (qzRCopy1 t) :: F) (fun w S => S.perm List.perm_append_comm) ?_
     refine l_f2 ?_
     refine o_append e_S_ok rfl rfl rfl Tryz.underlying27 (TxR.c (TxR.c (TxR.c (TxR.c (TxR.c T_t))))).rr (by show (_ + _) * _ ≤ _; simp only [List.length_nil]; omega) (by simp only [List.length_nil]; omega) fun a13 c13 => ?_
     refine l_eq (t := 13) (v' := .slice a13 (t.f_Reads.xs).length c13) rfl (by rfl) ?_
     refine l_conv (L' := row e_S.T e_S.sz a13 (t.f_Reads.xs).length c13 (flat e_S t.f_Reads.xs) :: _) (fun w S => by exact S) ?_
     refine l_nil ?_
     refine q_conv (L' := (blk b2 (qzRCopy2) :: blk b1 (qzRCopy1 t) :: F) ++ [row e_S.T e_S.sz a13 (t.f_Reads.xs).length c13 (flat e_S t.f_Reads.xs), blk b3 (qzRCopy2), row e_S.T e_S.sz a14 (([] : List ByteArray)).length 0 (flat e_S ([] : List ByteArray))]) (fun w S => S.perm (List.perm_append_comm (l₁ := [row e_S.T e_S.sz a13 (t.f_Reads.xs).length c13 (flat e_S t.f_Reads.xs), blk b3 (qzRCopy2), row e_S.T e_S.sz a14 (([] : List ByteArray)).length 0 (flat e_S ([] : List ByteArray))]) (l₂ := blk b2 (qzRCopy2) :: blk b1 (qzRCopy1 t) :: F))) ?_
     refine h_next ?_
     refine h_one 11 rfl (by kernel_rfl) ?_
     refine l_conv (L' := row e_S.T e_S.sz a13 (t.f_Reads.xs).length c13 (flat e_S t.f_Reads.xs) :: blk b3 (qzRCopy2) :: row e_S.T e_S.sz a14 (([] : List ByteArray)).length 0 (flat e_S ([] : List ByteArray)) :: blk b2 (qzRCopy2) :: blk b1 (qzRCopy1 t) :: F) (fun w S => S.perm List.perm_append_comm) ?_
     refine l_f2 ?_
     refine o_append e_S_ok rfl rfl rfl Tryz.underlying27 (TxR.c (TxR.c (TxR.c (TxR.c (TxR.c T_t))))).rw (by show (_ + _) * _ ≤ _; simp only [List.length_nil]; omega) (by simp only [List.length_nil]; omega) fun a17 c17 => ?_
     refine l_eq (t := 17) (v' := .slice a17 (t.f_Writes.xs).length c17) rfl (by rfl) ?_
     refine l_conv (L' := row e_S.T e_S.sz a17 (t.f_Writes.xs).length c17 (flat e_S t.f_Writes.xs) :: _) (fun w S => by exact S) ?_
     refine l_nil ?_
     refine q_conv (L' := (blk b2 (qzRCopy2) :: blk b1 (qzRCopy1 t) :: F) ++ [row e_S.T e_S.sz a17 (t.f_Writes.xs).length c17 (flat e_S t.f_Writes.xs), row e_S.T e_S.sz a13 (t.f_Reads.xs).length c13 (flat e_S t.f_Reads.xs), blk b3 (qzRCopy2)]) (fun w S => S.perm (List.perm_append_comm (l₁ := [row e_S.T e_S.sz a17 (t.f_Writes.xs).length c17 (flat e_S t.f_Writes.xs), row e_S.T e_S.sz a13 (t.f_Reads.xs).length c13 (flat e_S t.f_Reads.xs), blk b3 (qzRCopy2)]) (l₂ := blk b2 (qzRCopy2) :: blk b1 (qzRCopy1 t) :: F))) ?_
     refine h_next ?_
     refine h_take 12 rfl rfl (by kernel_rfl) (by kernel_rfl) (by kernel_rfl) (fun L0 => v_build rfl sp30 ti30 rfl ((fill_cons (cells' := [.int .i64 t.f_Kind, .slice none 0 0, .slice none 0 0, .slice none 0 0, .int .i64 0]) rfl rfl rfl rfl (fill_cons (cells' := [.int .i64 t.f_Kind, .slice none 0 0, .slice none 0 0, .slice none 0 0, .int .i64 t.f_To]) rfl rfl rfl rfl (fill_cons (cells' := [.int .i64 t.f_Kind, .slice a13 (t.f_Reads.xs).length c13, .slice none 0 0, .slice none 0 0, .int .i64 t.f_To]) rfl rfl rfl rfl (fill_cons (cells' := [.int .i64 t.f_Kind, .slice a13 (t.f_Reads.xs).length c13, .slice a17 (t.f_Writes.xs).length c17, .slice none 0 0, .int .i64 t.f_To]) rfl rfl rfl rfl fill_nil)))))) ?_
     refine h_one 14 rfl (by kernel_rfl) ?_
     refine l_conv (L' := row e_S.T e_S.sz a17 (t.f_Writes.xs).length c17 (flat e_S t.f_Writes.xs) :: row e_S.T e_S.sz a13 (t.f_Reads.xs).length c13 (flat e_S t.f_Reads.xs) :: blk b3 (qzRCopy2) :: blk b2 (qzRCopy2) :: blk b1 (qzRCopy1 t) :: F) (fun w S => S.perm List.perm_append_comm) ?_
     refine l_f2 ?_
     refine o_storen rfl rfl ti30 rfl rfl rfl rfl ?_
     refine l_nil ?_
     refine q_conv (L' := (blk b2 (qzRCopy2) :: blk b1 (qzRCopy1 t) :: F) ++ [blk b3 (qzRCopy3 t a13 c13 a17 c17), row e_S.T e_S.sz a17 (t.f_Writes.xs).length c17 (flat e_S t.f_Writes.xs), row e_S.T e_S.sz a13 (t.f_Reads.xs).length c13 (flat e_S t.f_Reads.xs)]) (fun w S => S.perm (List.perm_append_comm (l₁ := [blk b3 (qzRCopy3 t a13 c13 a17 c17), row e_S.T e_S.sz a17 (t.f_Writes.xs).length c17 (flat e_S t.f_Writes.xs), row e_S.T e_S.sz a13 (t.f_Reads.xs).length c13 (flat e_S t.f_Reads.xs)]) (l₂ := blk b2 (qzRCopy2) :: blk b1 (qzRCopy1 t) :: F))) ?_
     refine h_next ?_
     refine h_done (by kernel_rfl) ?_
     refine q_conv (L' := blk b3 (qzRCopy3 t a13 c13 a17 c17) :: row e_S.T e_S.sz a17 (t.f_Writes.xs).length c17 (flat e_S t.f_Writes.xs) :: row e_S.T e_S.sz a13 (t.f_Reads.xs).length c13 (flat e_S t.f_Reads.xs) :: blk b2 (qzRCopy2) :: blk b1 (qzRCopy1 t) :: F) (fun w S => S.perm List.perm_append_comm) ?_
     exact q_mid (b3, a13, c13, a17, c17, a10, a14) (by trivial) ⟨(by first | rfl | exact vint (by omega)), (by first | rfl | exact vint (by omega)), (by first | rfl | exact vint (by omega)), (by first | rfl | exact vint (by omega)), (by first | rfl | exact vint (by omega)), (by first | rfl | exact vint (by omega)), (by first | rfl | exact vint (by omega)), (by first | rfl | exact vint (by omega)), (by first | rfl | exact vint (by omega)), (by first | rfl | exact vint (by omega)), (by first | rfl | exact vint (by omega)), (by first | rfl | exact vint (by omega)), (by first | rfl | exact vint (by omega)), (by first | rfl | exact vint (by omega)), (by first | rfl | exact vint (by omega)), (by first | rfl | exact vint (by omega)), (by first | rfl | exact vint (by omega)), trivial⟩ (fun w S => S)
   · -- 13 comes first
    refine l_conv (L' := row e_S.T e_S.sz a10 (([] : List ByteArray)).length 0 (flat e_S ([] : List ByteArray)) :: blk b2 (qzRCopy2) :: blk b1 (qzRCopy1 t) :: F) (fun w S => S.perm List.perm_append_comm) ?_
    refine o_alloc rfl ti30 fun b3 => ?_
    refine l_nil ?_
    refine q_conv (L' := (blk b2 (qzRCopy2) :: blk b1 (qzRCopy1 t) :: F) ++ [blk b3 (qzRCopy2), row e_S.T e_S.sz a10 (([] : List ByteArray)).length 0 (flat e_S ([] : List ByteArray))]) (fun w S => S.perm (List.perm_append_comm (l₁ := [blk b3 (qzRCopy2), row e_S.T e_S.sz a10 (([] : List ByteArray)).length 0 (flat e_S ([] : List ByteArray))]) (l₂ := blk b2 (qzRCopy2) :: blk b1 (qzRCopy1 t) :: F))) ?_
    refine h_next ?_
    refine h_many (is := [7, 8]) (by kernel_rfl) (by decide) (forall_cons ⟨_, rfl, ?_⟩ (forall_cons ⟨_, rfl, ?_⟩ forall_nil))
    · -- 7 comes first
     refine l_conv (L' := blk b3 (qzRCopy2) :: row e_S.T e_S.sz a10 (([] : List ByteArray)).length 0 (flat e_S ([] : List ByteArray)) :: blk b2 (qzRCopy2) :: blk b1 (qzRCopy1 t) :: F) (fun w S => S.perm List.perm_append_comm) ?_
     refine l_f1 ?_
     refine o_append e_S_ok rfl rfl rfl Tryz.underlying27 (TxR.c (TxR.c (TxR.c (TxR.c T_t)))).rr (by show (_ + _) * _ ≤ _; simp only [List.length_nil]; omega) (by simp only [List.length_nil]; omega) fun a13 c13 => ?_
     refine l_eq (t := 13) (v' := .slice a13 (t.f_Reads.xs).length c13) rfl (by rfl) ?_
     refine l_conv (L' := row e_S.T e_S.sz a13 (t.f_Reads.xs).length c13 (flat e_S t.f_Reads.xs) :: _) (fun w S => by exact S) ?_
     refine l_nil ?_
     refine q_conv (L' := (blk b2 (qzRCopy2) :: blk b1 (qzRCopy1 t) :: F) ++ [row e_S.T e_S.sz a13 (t.f_Reads.xs).length c13 (flat e_S t.f_Reads.xs), blk b3 (qzRCopy2)]) (fun w S => S.perm (List.perm_append_comm (l₁ := [row e_S.T e_S.sz a13 (t.f_Reads.xs).length c13 (flat e_S t.f_Reads.xs), blk b3 (qzRCopy2)]) (l₂ := blk b2 (qzRCopy2) :: blk b1 (qzRCopy1 t) :: F))) ?_
     refine h_next ?_
     refine h_one 8 rfl (by kernel_rfl) ?_
     refine l_conv (L' := row e_S.T e_S.sz a13 (t.f_Reads.xs).length c13 (flat e_S t.f_Reads.xs) :: blk b3 (qzRCopy2) :: blk b2 (qzRCopy2) :: blk b1 (qzRCopy1 t) :: F) (fun w S => S.perm List.perm_append_comm) ?_
     refine o_lit e_S_ok rfl Tryz.underlying27 rfl rfl rfl (lit_ok rfl) ([] : List ByteArray) rfl rfl fun a14 => ?_
     refine l_nil ?_
     refine q_conv (L' := (blk b2 (qzRCopy2) :: blk b1 (qzRCopy1 t) :: F) ++ [row e_S.T e_S.sz a14 (([] : List ByteArray)).length 0 (flat e_S ([] : List ByteArray)), row e_S.T e_S.sz a13 (t.f_Reads.xs).length c13 (flat e_S t.f_Reads.xs), blk b3 (qzRCopy2)]) (fun w S => S.perm (List.perm_append_comm (l₁ := [row e_S.T e_S.sz a14 (([] : List ByteArray)).length 0 (flat e_S ([] : List ByteArray)), row e_S.T e_S.sz a13 (t.f_Reads.xs).length c13 (flat e_S t.f_Reads.xs), blk b3 (qzRCopy2)]) (l₂ := blk b2 (qzRCopy2) :: blk b1 (qzRCopy1 t) :: F))) ?_
     refine h_next ?_
     refine h_one 11 rfl (by kernel_rfl) ?_
     refine l_conv (L' := row e_S.T e_S.sz a14 (([] : List ByteArray)).length 0 (flat e_S ([] : List ByteArray)) :: row e_S.T e_S.sz a13 (t.f_Reads.xs).length c13 (flat e_S t.f_Reads.xs) :: blk b3 (qzRCopy2) :: blk b2 (qzRCopy2) :: blk b1 (qzRCopy1 t) :: F) (fun w S => S.perm List.perm_append_comm) ?_
     refine o_append e_S_ok rfl rfl rfl Tryz.underlying27 (TxR.c (TxR.c (TxR.c (TxR.c (TxR.c T_t))))).rw (by show (_ + _) * _ ≤ _; simp only [List.length_nil]; omega) (by simp only [List.length_nil]; omega) fun a17 c17 => ?_
     refine l_eq (t := 17) (v' := .slice a17 (t.f_Writes.xs).length c17) rfl (by rfl) ?_
     refine l_conv (L' := row e_S.T e_S.sz a17 (t.f_Writes.xs).length c17 (flat e_S t.f_Writes.xs) :: _) (fun w S => by exact S) ?_
     refine l_nil ?_
     refine q_conv (L' := (blk b2 (qzRCopy2) :: blk b1 (qzRCopy1 t) :: F) ++ [row e_S.T e_S.sz a17 (t.f_Writes.xs).length c17 (flat e_S t.f_Writes.xs), row e_S.T e_S.sz a13 (t.f_Reads.xs).length c13 (flat e_S t.f_Reads.xs), blk b3 (qzRCopy2)]) (fun w S => S.perm (List.perm_append_comm (l₁ := [row e_S.T e_S.sz a17 (t.f_Writes.xs).length c17 (flat e_S t.f_Writes.xs), row e_S.T e_S.sz a13 (t.f_Reads.xs).length c13 (flat e_S t.f_Reads.xs), blk b3 (qzRCopy2)]) (l₂ := blk b2 (qzRCopy2) :: blk b1 (qzRCopy1 t) :: F))) ?_
     refine h_next ?_
     refine h_take 12 rfl rfl (by kernel_rfl) (by kernel_rfl) (by kernel_rfl) (fun L0 => v_build rfl sp30 ti30 rfl ((fill_cons (cells' := [.int .i64 t.f_Kind, .slice none 0 0, .slice none 0 0, .slice none 0 0, .int .i64 0]) rfl rfl rfl rfl (fill_cons (cells' := [.int .i64 t.f_Kind, .slice none 0 0, .slice none 0 0, .slice none 0 0, .int .i64 t.f_To]) rfl rfl rfl rfl (fill_cons (cells' := [.int .i64 t.f_Kind, .slice a13 (t.f_Reads.xs).length c13, .slice none 0 0, .slice none 0 0, .int .i64 t.f_To]) rfl rfl rfl rfl (fill_cons (cells' := [.int .i64 t.f_Kind, .slice a13 (t.f_Reads.xs).length c13, .slice a17 (t.f_Writes.xs).length c17, .slice none 0 0, .int .i64 t.f_To]) rfl rfl rfl rfl fill_nil)))))) ?_
     refine h_one 14 rfl (by kernel_rfl) ?_
     refine l_conv (L' := row e_S.T e_S.sz a17 (t.f_Writes.xs).length c17 (flat e_S t.f_Writes.xs) :: row e_S.T e_S.sz a13 (t.f_Reads.xs).length c13 (flat e_S t.f_Reads.xs) :: blk b3 (qzRCopy2) :: blk b2 (qzRCopy2) :: blk b1 (qzRCopy1 t) :: F) (fun w S => S.perm List.perm_append_comm) ?_
     refine l_f2 ?_
     refine o_storen rfl rfl ti30 rfl rfl rfl rfl ?_
     refine l_nil ?_
     refine q_conv (L' := (blk b2 (qzRCopy2) :: blk b1 (qzRCopy1 t) :: F) ++ [blk b3 (qzRCopy3 t a13 c13 a17 c17), row e_S.T e_S.sz a17 (t.f_Writes.xs).length c17 (flat e_S t.f_Writes.xs), row e_S.T e_S.sz a13 (t.f_Reads.xs).length c13 (flat e_S t.f_Reads.xs)]) (fun w S => S.perm (List.perm_append_comm (l₁ := [blk b3 (qzRCopy3 t a13 c13 a17 c17), row e_S.T e_S.sz a17 (t.f_Writes.xs).length c17 (flat e_S t.f_Writes.xs), row e_S.T e_S.sz a13 (t.f_Reads.xs).length c13 (flat e_S t.f_Reads.xs)]) (l₂ := blk b2 (qzRCopy2) :: blk b1 (qzRCopy1 t) :: F))) ?_
     refine h_next ?_
     refine h_done (by kernel_rfl) ?_
     refine q_conv (L' := blk b3 (qzRCopy3 t a13 c13 a17 c17) :: row e_S.T e_S.sz a17 (t.f_Writes.xs).length c17 (flat e_S t.f_Writes.xs) :: row e_S.T e_S.sz a13 (t.f_Reads.xs).length c13 (flat e_S t.f_Reads.xs) :: blk b2 (qzRCopy2) :: blk b1 (qzRCopy1 t) :: F) (fun w S => S.perm List.perm_append_comm) ?_
     exact q_mid (b3, a13, c13, a17, c17, a10, a14) (by trivial) ⟨(by first | rfl | exact vint (by omega)), (by first | rfl | exact vint (by omega)), (by first | rfl | exact vint (by omega)), (by first | rfl | exact vint (by omega)), (by first | rfl | exact vint (by omega)), (by first | rfl | exact vint (by omega)), (by first | rfl | exact vint (by omega)), (by first | rfl | exact vint (by omega)), (by first | rfl | exact vint (by omega)), (by first | rfl | exact vint (by omega)), (by first | rfl | exact vint (by omega)), (by first | rfl | exact vint (by omega)), (by first | rfl | exact vint (by omega)), (by first | rfl | exact vint (by omega)), (by first | rfl | exact vint (by omega)), (by first | rfl | exact vint (by omega)), (by first | rfl | exact vint (by omega)), trivial⟩ (fun w S => S)
    · -- 8 comes first
     refine l_conv (L' := blk b3 (qzRCopy2) :: row e_S.T e_S.sz a10 (([] : List ByteArray)).length 0 (flat e_S ([] : List ByteArray)) :: blk b2 (qzRCopy2) :: blk b1 (qzRCopy1 t) :: F) (fun w S => S.perm List.perm_append_comm) ?_
     refine o_lit e_S_ok rfl Tryz.underlying27 rfl rfl rfl (lit_ok rfl) ([] : List ByteArray) rfl rfl fun a14 => ?_
     refine l_nil ?_
     refine q_conv (L' := (blk b2 (qzRCopy2) :: blk b1 (qzRCopy1 t) :: F) ++ [row e_S.T e_S.sz a14 (([] : List ByteArray)).length 0 (flat e_S ([] : List ByteArray)), blk b3 (qzRCopy2), row e_S.T e_S.sz a10 (([] : List ByteArray)).length 0 (flat e_S ([] : List ByteArray))]) (fun w S => S.perm (List.perm_append_comm (l₁ := [row e_S.T e_S.sz a14 (([] : List ByteArray)).length 0 (flat e_S ([] : List ByteArray)), blk b3 (qzRCopy2), row e_S.T e_S.sz a10 (([] : List ByteArray)).length 0 (flat e_S ([] : List ByteArray))]) (l₂ := blk b2 (qzRCopy2) :: blk b1 (qzRCopy1 t) :: F))) ?_
     refine h_next ?_
     refine h_one 7 rfl (by kernel_rfl) ?_
     refine l_conv (L' := row e_S.T e_S.sz a14 (([] : List ByteArray)).length 0 (flat e_S ([] : List ByteArray)) :: blk b3 (qzRCopy2) :: row e_S.T e_S.sz a10 (([] : List ByteArray)).length 0 (flat e_S ([] : List ByteArray)) :: blk b2 (qzRCopy2) :: blk b1 (qzRCopy1 t) :: F) (fun w S => S.perm List.perm_append_comm) ?_
     refine l_f2 ?_
     refine o_append e_S_ok rfl rfl rfl Tryz.underlying27 (TxR.c (TxR.c (TxR.c (TxR.c (TxR.c T_t))))).rr (by show (_ + _) * _ ≤ _; simp only [List.length_nil]; omega) (by simp only [List.length_nil]; omega) fun a13 c13 => ?_
     refine l_eq (t := 13) (v' := .slice a13 (t.f_Reads.xs).length c13) rfl (by rfl) ?_
     refine l_conv (L' := row e_S.T e_S.sz a13 (t.f_Reads.xs).length c13 (flat e_S t.f_Reads.xs) :: _) (fun w S => by exact S) ?_
     refine l_nil ?_
     refine q_conv (L' := (blk b2 (qzRCopy2) :: blk b1 (qzRCopy1 t) :: F) ++ [row e_S.T e_S.sz a13 (t.f_Reads.xs).length c13 (flat e_S t.f_Reads.xs), row e_S.T e_S.sz a14 (([] : List ByteArray)).length 0 (flat e_S ([] : List ByteArray)), blk b3 (qzRCopy2)]) (fun w S => S.perm (List.perm_append_comm (l₁ := [row e_S.T e_S.sz a13 (t.f_Reads.xs).length c13 (flat e_S t.f_Reads.xs), row e_S.T e_S.sz a14 (([] : List ByteArray)).length 0 (flat e_S ([] : List ByteArray)), blk b3 (qzRCopy2)]) (l₂ := blk b2 (qzRCopy2) :: blk b1 (qzRCopy1 t) :: F))) ?_
     refine h_next ?_
     refine h_one 11 rfl (by kernel_rfl) ?_
     refine l_conv (L' := row e_S.T e_S.sz a13 (t.f_Reads.xs).length c13 (flat e_S t.f_Reads.xs) :: row e_S.T e_S.sz a14 (([] : List ByteArray)).length 0 (flat e_S ([] : List ByteArray)) :: blk b3 (qzRCopy2) :: blk b2 (qzRCopy2) :: blk b1 (qzRCopy1 t) :: F) (fun w S => S.perm List.perm_append_comm) ?_
     refine l_f1 ?_
     refine o_append e_S_ok rfl rfl rfl Tryz.underlying27 (TxR.c (TxR.c (TxR.c (TxR.c (TxR.c T_t))))).rw (by show (_ + _) * _ ≤ _; simp only [List.length_nil]; omega) (by simp only [List.length_nil]; omega) fun a17 c17 => ?_
     refine l_eq (t := 17) (v' := .slice a17 (t.f_Writes.xs).length c17) rfl (by rfl) ?_
     refine l_conv (L' := row e_S.T e_S.sz a17 (t.f_Writes.xs).length c17 (flat e_S t.f_Writes.xs) :: _) (fun w S => by exact S) ?_
     refine l_nil ?_
     refine q_conv (L' := (blk b2 (qzRCopy2) :: blk b1 (qzRCopy1 t) :: F) ++ [row e_S.T e_S.sz a17 (t.f_Writes.xs).length c17 (flat e_S t.f_Writes.xs), row e_S.T e_S.sz a13 (t.f_Reads.xs).length c13 (flat e_S t.f_Reads.xs), blk b3 (qzRCopy2)]) (fun w S => S.perm (List.perm_append_comm (l₁ := [row e_S.T e_S.sz a17 (t.f_Writes.xs).length c17 (flat e_S t.f_Writes.xs), row e_S.T e_S.sz a13 (t.f_Reads.xs).length c13 (flat e_S t.f_Reads.xs), blk b3 (qzRCopy2)]) (l₂ := blk b2 (qzRCopy2) :: blk b1 (qzRCopy1 t) :: F))) ?_
     refine h_next ?_
     refine h_take 12 rfl rfl (by kernel_rfl) (by kernel_rfl) (by kernel_rfl) (fun L0 => v_build rfl sp30 ti30 rfl ((fill_cons (cells' := [.int .i64 t.f_Kind, .slice none 0 0, .slice none 0 0, .slice none 0 0, .int .i64 0]) rfl rfl rfl rfl (fill_cons (cells' := [.int .i64 t.f_Kind, .slice none 0 0, .slice none 0 0, .slice none 0 0, .int .i64 t.f_To]) rfl rfl rfl rfl (fill_cons (cells' := [.int .i64 t.f_Kind, .slice a13 (t.f_Reads.xs).length c13, .slice none 0 0, .slice none 0 0, .int .i64 t.f_To]) rfl rfl rfl rfl (fill_cons (cells' := [.int .i64 t.f_Kind, .slice a13 (t.f_Reads.xs).length c13, .slice a17 (t.f_Writes.xs).length c17, .slice none 0 0, .int .i64 t.f_To]) rfl rfl rfl rfl fill_nil)))))) ?_
     refine h_one 14 rfl (by kernel_rfl) ?_
     refine l_conv (L' := row e_S.T e_S.sz a17 (t.f_Writes.xs).length c17 (flat e_S t.f_Writes.xs) :: row e_S.T e_S.sz a13 (t.f_Reads.xs).length c13 (flat e_S t.f_Reads.xs) :: blk b3 (qzRCopy2) :: blk b2 (qzRCopy2) :: blk b1 (qzRCopy1 t) :: F) (fun w S => S.perm List.perm_append_comm) ?_
     refine l_f2 ?_
     refine o_storen rfl rfl ti30 rfl rfl rfl rfl ?_
     refine l_nil ?_
     refine q_conv (L' := (blk b2 (qzRCopy2) :: blk b1 (qzRCopy1 t) :: F) ++ [blk b3 (qzRCopy3 t a13 c13 a17 c17), row e_S.T e_S.sz a17 (t.f_Writes.xs).length c17 (flat e_S t.f_Writes.xs), row e_S.T e_S.sz a13 (t.f_Reads.xs).length c13 (flat e_S t.f_Reads.xs)]) (fun w S => S.perm (List.perm_append_comm (l₁ := [blk b3 (qzRCopy3 t a13 c13 a17 c17), row e_S.T e_S.sz a17 (t.f_Writes.xs).length c17 (flat e_S t.f_Writes.xs), row e_S.T e_S.sz a13 (t.f_Reads.xs).length c13 (flat e_S t.f_Reads.xs)]) (l₂ := blk b2 (qzRCopy2) :: blk b1 (qzRCopy1 t) :: F))) ?_
     refine h_next ?_
     refine h_done (by kernel_rfl) ?_
     refine q_conv (L' := blk b3 (qzRCopy3 t a13 c13 a17 c17) :: row e_S.T e_S.sz a17 (t.f_Writes.xs).length c17 (flat e_S t.f_Writes.xs) :: row e_S.T e_S.sz a13 (t.f_Reads.xs).length c13 (flat e_S t.f_Reads.xs) :: blk b2 (qzRCopy2) :: blk b1 (qzRCopy1 t) :: F) (fun w S => S.perm List.perm_append_comm) ?_
     exact q_mid (b3, a13, c13, a17, c17, a10, a14) (by trivial) ⟨(by first | rfl | exact vint (by omega)), (by first | rfl | exact vint (by omega)), (by first | rfl | exact vint (by omega)), (by first | rfl | exact vint (by omega)), (by first | rfl | exact vint (by omega)), (by first | rfl | exact vint (by omega)), (by first | rfl | exact vint (by omega)), (by first | rfl | exact vint (by omega)), (by first | rfl | exact vint (by omega)), (by first | rfl | exact vint (by omega)), (by first | rfl | exact vint (by omega)), (by first | rfl | exact vint (by omega)), (by first | rfl | exact vint (by omega)), (by first | rfl | exact vint (by omega)), (by first | rfl | exact vint (by omega)), (by first | rfl | exact vint (by omega)), (by first | rfl | exact vint (by omega)), trivial⟩ (fun w S => S)
  · -- 8 comes first
   refine l_conv (L' := blk b2 (qzRCopy2) :: blk b1 (qzRCopy1 t) :: F) (fun w S => S.perm List.perm_append_comm) ?_
   refine o_lit e_S_ok rfl Tryz.underlying27 rfl rfl rfl (lit_ok rfl) ([] : List ByteArray) rfl rfl fun a14 => ?_
   refine l_nil ?_
   refine q_conv (L' := (blk b2 (qzRCopy2) :: blk b1 (qzRCopy1 t) :: F) ++ [row e_S.T e_S.sz a14 (([] : List ByteArray)).length 0 (flat e_S ([] : List ByteArray))]) (fun w S => S.perm (List.perm_append_comm (l₁ := [row e_S.T e_S.sz a14 (([] : List ByteArray)).length 0 (flat e_S ([] : List ByteArray))]) (l₂ := blk b2 (qzRCopy2) :: blk b1 (qzRCopy1 t) :: F))) ?_
   refine h_next ?_
   refine h_many (is := [4, 13]) (by kernel_rfl) (by decide) (forall_cons ⟨_, rfl, ?_⟩ (forall_cons ⟨_, rfl, ?_⟩ forall_nil))
   · -- 4 comes first
    refine l_conv (L' := row e_S.T e_S.sz a14 (([] : List ByteArray)).length 0 (flat e_S ([] : List ByteArray)) :: blk b2 (qzRCopy2) :: blk b1 (qzRCopy1 t) :: F) (fun w S => S.perm List.perm_append_comm) ?_
    refine o_lit e_S_ok rfl Tryz.underlying27 rfl rfl rfl (lit_ok rfl) ([] : List ByteArray) rfl rfl fun a10 => ?_
    refine l_nil ?_
    refine q_conv (L' := (blk b2 (qzRCopy2) :: blk b1 (qzRCopy1 t) :: F) ++ [row e_S.T e_S.sz a10 (([] : List ByteArray)).length 0 (flat e_S ([] : List ByteArray)), row e_S.T e_S.sz a14 (([] : List ByteArray)).length 0 (flat e_S ([] : List ByteArray))]) (fun w S => S.perm (List.perm_append_comm (l₁ := [row e_S.T e_S.sz a10 (([] : List ByteArray)).length 0 (flat e_S ([] : List ByteArray)), row e_S.T e_S.sz a14 (([] : List ByteArray)).length 0 (flat e_S ([] : List ByteArray))]) (l₂ := blk b2 (qzRCopy2) :: blk b1 (qzRCopy1 t) :: F))) ?_
    refine h_next ?_
    refine h_many (is := [7, 13]) (by kernel_rfl) (by decide) (forall_cons ⟨_, rfl, ?_⟩ (forall_cons ⟨_, rfl, ?_⟩ forall_nil))
    · -- 7 comes first
     refine l_conv (L' := row e_S.T e_S.sz a10 (([] : List ByteArray)).length 0 (flat e_S ([] : List ByteArray)) :: row e_S.T e_S.sz a14 (([] : List ByteArray)).length 0 (flat e_S ([] : List ByteArray)) :: blk b2 (qzRCopy2) :: blk b1 (qzRCopy1 t) :: F) (fun w S => S.perm List.perm_append_comm) ?_
     refine o_append e_S_ok rfl rfl rfl Tryz.underlying27 (TxR.c (TxR.c (TxR.c (TxR.c T_t)))).rr (by show (_ + _) * _ ≤ _; simp only [List.length_nil]; omega) (by simp only [List.length_nil]; omega) fun a13 c13 => ?_
     refine l_eq (t := 13) (v' := .slice a13 (t.f_Reads.xs).length c13) rfl (by rfl) ?_
     refine l_conv (L' := row e_S.T e_S.sz a13 (t.f_Reads.xs).length c13 (flat e_S t.f_Reads.xs) :: _) (fun w S => by exact S) ?_
     refine l_nil ?_
     refine q_conv (L' := (blk b2 (qzRCopy2) :: blk b1 (qzRCopy1 t) :: F) ++ [row e_S.T e_S.sz a13 (t.f_Reads.xs).length c13 (flat e_S t.f_Reads.xs), row e_S.T e_S.sz a14 (([] : List ByteArray)).length 0 (flat e_S ([] : List ByteArray))]) (fun w S => S.perm (List.perm_append_comm (l₁ := [row e_S.T e_S.sz a13 (t.f_Reads.xs).length c13 (flat e_S t.f_Reads.xs), row e_S.T e_S.sz a14 (([] : List ByteArray)).length 0 (flat e_S ([] : List ByteArray))]) (l₂ := blk b2 (qzRCopy2) :: blk b1 (qzRCopy1 t) :: F))) ?_
     refine h_next ?_
     refine h_many (is := [11, 13]) (by kernel_rfl) (by decide) (forall_cons ⟨_, rfl, ?_⟩ (forall_cons ⟨_, rfl, ?_⟩ forall_nil))
     · -- 11 comes first
      refine l_conv (L' := row e_S.T e_S.sz a13 (t.f_Reads.xs).length c13 (flat e_S t.f_Reads.xs) :: row e_S.T e_S.sz a14 (([] : List ByteArray)).length 0 (flat e_S ([] : List ByteArray)) :: blk b2 (qzRCopy2) :: blk b1 (qzRCopy1 t) :: F) (fun w S => S.perm List.perm_append_comm) ?_
      refine l_f1 ?_
      refine o_append e_S_ok rfl rfl rfl Tryz.underlying27 (TxR.c (TxR.c (TxR.c (TxR.c T_t)))).rw (by show (_ + _) * _ ≤ _; simp only [List.length_nil]; omega) (by simp only [List.length_nil]; omega) fun a17 c17 => ?_
      refine l_eq (t := 17) (v' := .slice a17 (t.f_Writes.xs).length c17) rfl (by rfl) ?_
      refine l_conv (L' := row e_S.T e_S.sz a17 (t.f_Writes.xs).length c17 (flat e_S t.f_Writes.xs) :: _) (fun w S => by exact S) ?_
      refine l_nil ?_
      refine q_conv (L' := (blk b2 (qzRCopy2) :: blk b1 (qzRCopy1 t) :: F) ++ [row e_S.T e_S.sz a17 (t.f_Writes.xs).length c17 (flat e_S t.f_Writes.xs), row e_S.T e_S.sz a13 (t.f_Reads.xs).length c13 (flat e_S t.f_Reads.xs)]) (fun w S => S.perm (List.perm_append_comm (l₁ := [row e_S.T e_S.sz a17 (t.f_Writes.xs).length c17 (flat e_S t.f_Writes.xs), row e_S.T e_S.sz a13 (t.f_Reads.xs).length c13 (flat e_S t.f_Reads.xs)]) (l₂ := blk b2 (qzRCopy2) :: blk b1 (qzRCopy1 t) :: F))) ?_
      refine h_next ?_
      refine h_take 12 rfl rfl (by kernel_rfl) (by kernel_rfl) (by kernel_rfl) (fun L0 => v_build rfl sp30 ti30 rfl ((fill_cons (cells' := [.int .i64 t.f_Kind, .slice none 0 0, .slice none 0 0, .slice none 0 0, .int .i64 0]) rfl rfl rfl rfl (fill_cons (cells' := [.int .i64 t.f_Kind, .slice none 0 0, .slice none 0 0, .slice none 0 0, .int .i64 t.f_To]) rfl rfl rfl rfl (fill_cons (cells' := [.int .i64 t.f_Kind, .slice a13 (t.f_Reads.xs).length c13, .slice none 0 0, .slice none 0 0, .int .i64 t.f_To]) rfl rfl rfl rfl (fill_cons (cells' := [.int .i64 t.f_Kind, .slice a13 (t.f_Reads.xs).length c13, .slice a17 (t.f_Writes.xs).length c17, .slice none 0 0, .int .i64 t.f_To]) rfl rfl rfl rfl fill_nil)))))) ?_
      refine h_one 13 rfl (by kernel_rfl) ?_
      refine l_conv (L' := row e_S.T e_S.sz a17 (t.f_Writes.xs).length c17 (flat e_S t.f_Writes.xs) :: row e_S.T e_S.sz a13 (t.f_Reads.xs).length c13 (flat e_S t.f_Reads.xs) :: blk b2 (qzRCopy2) :: blk b1 (qzRCopy1 t) :: F) (fun w S => S.perm List.perm_append_comm) ?_
      refine o_alloc rfl ti30 fun b3 => ?_
      refine l_nil ?_
      refine q_conv (L' := (blk b2 (qzRCopy2) :: blk b1 (qzRCopy1 t) :: F) ++ [blk b3 (qzRCopy2), row e_S.T e_S.sz a17 (t.f_Writes.xs).length c17 (flat e_S t.f_Writes.xs), row e_S.T e_S.sz a13 (t.f_Reads.xs).length c13 (flat e_S t.f_Reads.xs)]) (fun w S => S.perm (List.perm_append_comm (l₁ := [blk b3 (qzRCopy2), row e_S.T e_S.sz a17 (t.f_Writes.xs).length c17 (flat e_S t.f_Writes.xs), row e_S.T e_S.sz a13 (t.f_Reads.xs).length c13 (flat e_S t.f_Reads.xs)]) (l₂ := blk b2 (qzRCopy2) :: blk b1 (qzRCopy1 t) :: F))) ?_
      refine h_next ?_
      refine h_one 14 rfl (by kernel_rfl) ?_
      refine l_conv (L' := blk b3 (qzRCopy2) :: row e_S.T e_S.sz a17 (t.f_Writes.xs).length c17 (flat e_S t.f_Writes.xs) :: row e_S.T e_S.sz a13 (t.f_Reads.xs).length c13 (flat e_S t.f_Reads.xs) :: blk b2 (qzRCopy2) :: blk b1 (qzRCopy1 t) :: F) (fun w S => S.perm List.perm_append_comm) ?_
      refine o_storen rfl rfl ti30 rfl rfl rfl rfl ?_
      refine l_nil ?_
      refine q_conv (L' := (blk b2 (qzRCopy2) :: blk b1 (qzRCopy1 t) :: F) ++ [blk b3 (qzRCopy3 t a13 c13 a17 c17), row e_S.T e_S.sz a17 (t.f_Writes.xs).length c17 (flat e_S t.f_Writes.xs), row e_S.T e_S.sz a13 (t.f_Reads.xs).length c13 (flat e_S t.f_Reads.xs)]) (fun w S => S.perm (List.perm_append_comm (l₁ := [blk b3 (qzRCopy3 t a13 c13 a17 c17), row e_S.T e_S.sz a17 (t.f_Writes.xs).length c17 (flat e_S t.f_Writes.xs), row e_S.T e_S.sz a13 (t.f_Reads.xs).length c13 (flat e_S t.f_Reads.xs)]) (l₂ := blk b2 (qzRCopy2) :: blk b1 (qzRCopy1 t) :: F))) ?_
      refine h_next ?_
      refine h_done (by kernel_rfl) ?_
      refine q_conv (L' := blk b3 (qzRCopy3 t a13 c13 a17 c17) :: row e_S.T e_S.sz a17 (t.f_Writes.xs).length c17 (flat e_S t.f_Writes.xs) :: row e_S.T e_S.sz a13 (t.f_Reads.xs).length c13 (flat e_S t.f_Reads.xs) :: blk b2 (qzRCopy2) :: blk b1 (qzRCopy1 t) :: F) (fun w S => S.perm List.perm_append_comm) ?_
      exact q_mid (b3, a13, c13, a17, c17, a10, a14) (by trivial) ⟨(by first | rfl | exact vint (by omega)), (by first | rfl | exact vint (by omega)), (by first | rfl | exact vint (by omega)), (by first | rfl | exact vint (by omega)), (by first | rfl | exact vint (by omega)), (by first | rfl | exact vint (by omega)), (by first | rfl | exact vint (by omega)), (by first | rfl | exact vint (by omega)), (by first | rfl | exact vint (by omega)), (by first | rfl | exact vint (by omega)), (by first | rfl | exact vint (by omega)), (by first | rfl | exact vint (by omega)), (by first | rfl | exact vint (by omega)), (by first | rfl | exact vint (by omega)), (by first | rfl | exact vint (by omega)), (by first | rfl | exact vint (by omega)), (by first | rfl | exact vint (by omega)), trivial⟩ (fun w S => S)
     · -- 13 comes first
      refine l_conv (L' := row e_S.T e_S.sz a13 (t.f_Reads.xs).length c13 (flat e_S t.f_Reads.xs) :: row e_S.T e_S.sz a14 (([] : List ByteArray)).length 0 (flat e_S ([] : List ByteArray)) :: blk b2 (qzRCopy2) :: blk b1 (qzRCopy1 t) :: F) (fun w S => S.perm List.perm_append_comm) ?_
      refine o_alloc rfl ti30 fun b3 => ?_
      refine l_nil ?_
      refine q_conv (L' := (blk b2 (qzRCopy2) :: blk b1 (qzRCopy1 t) :: F) ++ [blk b3 (qzRCopy2), row e_S.T e_S.sz a13 (t.f_Reads.xs).length c13 (flat e_S t.f_Reads.xs), row e_S.T e_S.sz a14 (([] : List ByteArray)).length 0 (flat e_S ([] : List ByteArray))]) (fun w S => S.perm (List.perm_append_comm (l₁ := [blk b3 (qzRCopy2), row e_S.T e_S.sz a13 (t.f_Reads.xs).length c13 (flat e_S t.f_Reads.xs), row e_S.T e_S.sz a14 (([] : List ByteArray)).length 0 (flat e_S ([] : List ByteArray))]) (l₂ := blk b2 (qzRCopy2) :: blk b1 (qzRCopy1 t) :: F))) ?_
      refine h_next ?_
      refine h_one 11 rfl (by kernel_rfl) ?_
      refine l_conv (L' := blk b3 (qzRCopy2) :: row e_S.T e_S.sz a13 (t.f_Reads.xs).length c13 (flat e_S t.f_Reads.xs) :: row e_S.T e_S.sz a14 (([] : List ByteArray)).length 0 (flat e_S ([] : List ByteArray)) :: blk b2 (qzRCopy2) :: blk b1 (qzRCopy1 t) :: F) (fun w S => S.perm List.perm_append_comm) ?_
      refine l_f2 ?_
      refine o_append e_S_ok rfl rfl rfl Tryz.underlying27 (TxR.c (TxR.c (TxR.c (TxR.c (TxR.c T_t))))).rw (by show (_ + _) * _ ≤ _; simp only [List.length_nil]; omega) (by simp only [List.length_nil]; omega) fun a17 c17 => ?_
      refine l_eq (t := 17) (v' := .slice a17 (t.f_Writes.xs).length c17) rfl (by rfl) ?_
      refine l_conv (L' := row e_S.T e_S.sz a17 (t.f_Writes.xs).length c17 (flat e_S t.f_Writes.xs) :: _) (fun w S => by exact S) ?_
      refine l_nil ?_
      refine q_conv (L' := (blk b2 (qzRCopy2) :: blk b1 (qzRCopy1 t) :: F) ++ [row e_S.T e_S.sz a17 (t.f_Writes.xs).length c17 (flat e_S t.f_Writes.xs), blk b3 (qzRCopy2), row e_S.T e_S.sz a13 (t.f_Reads.xs).length c13 (flat e_S t.f_Reads.xs)]) (fun w S => S.perm (List.perm_append_comm (l₁ := [row e_S.T e_S.sz a17 (t.f_Writes.xs).length c17 (flat e_S t.f_Writes.xs), blk b3 (qzRCopy2), row e_S.T e_S.sz a13 (t.f_Reads.xs).length c13 (flat e_S t.f_Reads.xs)]) (l₂ := blk b2 (qzRCopy2) :: blk b1 (qzRCopy1 t) :: F))) ?_
      refine h_next ?_
      refine h_take 12 rfl rfl (by kernel_rfl) (by kernel_rfl) (by kernel_rfl) (fun L0 => v_build rfl sp30 ti30 rfl ((fill_cons (cells' := [.int .i64 t.f_Kind, .slice none 0 0, .slice none 0 0, .slice none 0 0, .int .i64 0]) rfl rfl rfl rfl (fill_cons (cells' := [.int .i64 t.f_Kind, .slice none 0 0, .slice none 0 0, .slice none 0 0, .int .i64 t.f_To]) rfl rfl rfl rfl (fill_cons (cells' := [.int .i64 t.f_Kind, .slice a13 (t.f_Reads.xs).length c13, .slice none 0 0, .slice none 0 0, .int .i64 t.f_To]) rfl rfl rfl rfl (fill_cons (cells' := [.int .i64 t.f_Kind, .slice a13 (t.f_Reads.xs).length c13, .slice a17 (t.f_Writes.xs).length c17, .slice none 0 0, .int .i64 t.f_To]) rfl rfl rfl rfl fill_nil)))))) ?_
      refine h_one 14 rfl (by kernel_rfl) ?_
      refine l_conv (L' := row e_S.T e_S.sz a17 (t.f_Writes.xs).length c17 (flat e_S t.f_Writes.xs) :: blk b3 (qzRCopy2) :: row e_S.T e_S.sz a13 (t.f_Reads.xs).length c13 (flat e_S t.f_Reads.xs) :: blk b2 (qzRCopy2) :: blk b1 (qzRCopy1 t) :: F) (fun w S => S.perm List.perm_append_comm) ?_
      refine l_f1 ?_
      refine o_storen rfl rfl ti30 rfl rfl rfl rfl ?_
      refine l_nil ?_
      refine q_conv (L' := (blk b2 (qzRCopy2) :: blk b1 (qzRCopy1 t) :: F) ++ [blk b3 (qzRCopy3 t a13 c13 a17 c17), row e_S.T e_S.sz a17 (t.f_Writes.xs).length c17 (flat e_S t.f_Writes.xs), row e_S.T e_S.sz a13 (t.f_Reads.xs).length c13 (flat e_S t.f_Reads.xs)]) (fun w S => S.perm (List.perm_append_comm (l₁ := [blk b3 (qzRCopy3 t a13 c13 a17 c17), row e_S.T e_S.sz a17 (t.f_Writes.xs).length c17 (flat e_S t.f_Writes.xs), row e_S.T e_S.sz a13 (t.f_Reads.xs).length c13 (flat e_S t.f_Reads.xs)]) (l₂ := blk b2 (qzRCopy2) :: blk b1 (qzRCopy1 t) :: F))) ?_
      refine h_next ?_
      refine h_done (by kernel_rfl) ?_
      refine q_conv (L' := blk b3 (qzRCopy3 t a13 c13 a17 c17) :: row e_S.T e_S.sz a17 (t.f_Writes.xs).length c17 (flat e_S t.f_Writes.xs) :: row e_S.T e_S.sz a13 (t.f_Reads.xs).length c13 (flat e_S t.f_Reads.xs) :: blk b2 (qzRCopy2) :: blk b1 (qzRCopy1 t) :: F) (fun w S => S.perm List.perm_append_comm) ?_
      exact q_mid (b3, a13, c13, a17, c17, a10, a14) (by trivial) ⟨(by first | rfl | exact vint (by omega)), (by first | rfl | exact vint (by omega)), (by first | rfl | exact vint (by omega)), (by first | rfl | exact vint (by omega)), (by first | rfl | exact vint (by omega)), (by first | rfl | exact vint (by omega)), (by first | rfl | exact vint (by omega)), (by first | rfl | exact vint (by omega)), (by first | rfl | exact vint (by omega)), (by first | rfl | exact vint (by omega)), (by first | rfl | exact vint (by omega)), (by first | rfl | exact vint (by omega)), (by first | rfl | exact vint (by omega)), (by first | rfl | exact vint (by omega)), (by first | rfl | exact vint (by omega)), (by first | rfl | exact vint (by omega)), (by first | rfl | exact vint (by omega)), trivial⟩ (fun w S => S)
    · -- 13 comes first
     refine l_conv (L' := row e_S.T e_S.sz a10 (([] : List ByteArray)).length 0 (flat e_S ([] : List ByteArray)) :: row e_S.T e_S.sz a14 (([] : List ByteArray)).length 0 (flat e_S ([] : List ByteArray)) :: blk b2 (qzRCopy2) :: blk b1 (qzRCopy1 t) :: F) (fun w S => S.perm List.perm_append_comm) ?_
     refine o_alloc rfl ti30 fun b3 => ?_
     refine l_nil ?_
     refine q_conv (L' := (blk b2 (qzRCopy2) :: blk b1 (qzRCopy1 t) :: F) ++ [blk b3 (qzRCopy2), row e_S.T e_S.sz a10 (([] : List ByteArray)).length 0 (flat e_S ([] : List ByteArray)), row e_S.T e_S.sz a14 (([] : List ByteArray)).length 0 (flat e_S ([] : List ByteArray))]) (fun w S => S.perm (List.perm_append_comm (l₁ := [blk b3 (qzRCopy2), row e_S.T e_S.sz a10 (([] : List ByteArray)).length 0 (flat e_S ([] : List ByteArray)), row e_S.T e_S.sz a14 (([] : List ByteArray)).length 0 (flat e_S ([] : List ByteArray))]) (l₂ := blk b2 (qzRCopy2) :: blk b1 (qzRCopy1 t) :: F))) ?_
     refine h_next ?_
     refine h_one 7 rfl (by kernel_rfl) ?_
     refine l_conv (L' := blk b3 (qzRCopy2) :: row e_S.T e_S.sz a10 (([] : List ByteArray)).length 0 (flat e_S ([] : List ByteArray)) :: row e_S.T e_S.sz a14 (([] : List ByteArray)).length 0 (flat e_S ([] : List ByteArray)) :: blk b2 (qzRCopy2) :: blk b1 (qzRCopy1 t) :: F) (fun w S => S.perm List.perm_append_comm) ?_
     refine l_f1 ?_
     refine o_append e_S_ok rfl rfl rfl Tryz.underlying27 (TxR.c (TxR.c (TxR.c (TxR.c (TxR.c T_t))))).rr (by show (_ + _) * _ ≤ _; simp only [List.length_nil]; omega) (by simp only [List.length_nil]; omega) fun a13 c13 => ?_
     refine l_eq (t := 13) (v' := .slice a13 (t.f_Reads.xs).length c13) rfl (by rfl) ?_
     refine l_conv (L' := row e_S.T e_S.sz a13 (t.f_Reads.xs).length c13 (flat e_S t.f_Reads.xs) :: _) (fun w S => by exact S) ?_
     refine l_nil ?_
     refine q_conv (L' := (blk b2 (qzRCopy2) :: blk b1 (qzRCopy1 t) :: F) ++ [row e_S.T e_S.sz a13 (t.f_Reads.xs).length c13 (flat e_S t.f_Reads.xs), blk b3 (qzRCopy2), row e_S.T e_S.sz a14 (([] : List ByteArray)).length 0 (flat e_S ([] : List ByteArray))]) (fun w S => S.perm (List.perm_append_comm (l₁ := [row e_S.T e_S.sz a13 (t.f_Reads.xs).length c13 (flat e_S t.f_Reads.xs), blk b3 (qzRCopy2), row e_S.T e_S.sz a14 (([] : List ByteArray)).length 0 (flat e_S ([] : List ByteArray))]) (l₂ := blk b2 (qzRCopy2) :: blk b1 (qzRCopy1 t) :: F))) ?_
     refine h_next ?_
     refine h_one 11 rfl (by kernel_rfl) ?_
     refine l_conv (L' := row e_S.T e_S.sz a13 (t.f_Reads.xs).length c13 (flat e_S t.f_Reads.xs) :: blk b3 (qzRCopy2) :: row e_S.T e_S.sz a14 (([] : List ByteArray)).length 0 (flat e_S ([] : List ByteArray)) :: blk b2 (qzRCopy2) :: blk b1 (qzRCopy1 t) :: F) (fun w S => S.perm List.perm_append_comm) ?_
     refine l_f2 ?_
     refine o_append e_S_ok rfl rfl rfl Tryz.underlying27 (TxR.c (TxR.c (TxR.c (TxR.c (TxR.c T_t))))).rw (by show (_ + _) * _ ≤ _; simp only [List.length_nil]; omega) (by simp only [List.length_nil]; omega) fun a17 c17 => ?_
     refine l_eq (t := 17) (v' := .slice a17 (t.f_Writes.xs).length c17) rfl (by rfl) ?_
     refine l_conv (L' := row e_S.T e_S.sz a17 (t.f_Writes.xs).length c17 (flat e_S t.f_Writes.xs) :: _) (fun w S => by exact S) ?_
     refine l_nil ?_
     refine q_conv (L' := (blk b2 (qzRCopy2) :: blk b1 (qzRCopy1 t) :: F) ++ [row e_S.T e_S.sz a17 (t.f_Writes.xs).length c17 (flat e_S t.f_Writes.xs), row e_S.T e_S.sz a13 (t.f_Reads.xs).length c13 (flat e_S t.f_Reads.xs), blk b3 (qzRCopy2)]) (fun w S => S.perm (List.perm_append_comm (l₁ := [row e_S.T e_S.sz a17 (t.f_Writes.xs).length c17 (flat e_S t.f_Writes.xs), row e_S.T e_S.sz a13 (t.f_Reads.xs).length c13 (flat e_S t.f_Reads.xs), blk b3 (qzRCopy2)]) (l₂ := blk b2 (qzRCopy2) :: blk b1 (qzRCopy1 t) :: F))) ?_
     refine h_next ?_
     refine h_take 12 rfl rfl (by kernel_rfl) (by kernel_rfl) (by kernel_rfl) (fun L0 => v_build rfl sp30 ti30 rfl ((fill_cons (cells' := [.int .i64 t.f_Kind, .slice none 0 0, .slice none 0 0, .slice none 0 0, .int .i64 0]) rfl rfl rfl rfl (fill_cons (cells' := [.int .i64 t.f_Kind, .slice none 0 0, .slice none 0 0, .slice none 0 0, .int .i64 t.f_To]) rfl rfl rfl rfl (fill_cons (cells' := [.int .i64 t.f_Kind, .slice a13 (t.f_Reads.xs).length c13, .slice none 0 0, .slice none 0 0, .int .i64 t.f_To]) rfl rfl rfl rfl (fill_cons (cells' := [.int .i64 t.f_Kind, .slice a13 (t.f_Reads.xs).length c13, .slice a17 (t.f_Writes.xs).length c17, .slice none 0 0, .int .i64 t.f_To]) rfl rfl rfl rfl fill_nil)))))) ?_
     refine h_one 14 rfl (by kernel_rfl) ?_
     refine l_conv (L' := row e_S.T e_S.sz a17 (t.f_Writes.xs).length c17 (flat e_S t.f_Writes.xs) :: row e_S.T e_S.sz a13 (t.f_Reads.xs).length c13 (flat e_S t.f_Reads.xs) :: blk b3 (qzRCopy2) :: blk b2 (qzRCopy2) :: blk b1 (qzRCopy1 t) :: F) (fun w S => S.perm List.perm_append_comm) ?_
     refine l_f2 ?_
     refine o_storen rfl rfl ti30 rfl rfl rfl rfl ?_
     refine l_nil ?_
     refine q_conv (L' := (blk b2 (qzRCopy2) :: blk b1 (qzRCopy1 t) :: F) ++ [blk b3 (qzRCopy3 t a13 c13 a17 c17), row e_S.T e_S.sz a17 (t.f_Writes.xs).length c17 (flat e_S t.f_Writes.xs), row e_S.T e_S.sz a13 (t.f_Reads.xs).length c13 (flat e_S t.f_Reads.xs)]) (fun w S => S.perm (List.perm_append_comm (l₁ := [blk b3 (qzRCopy3 t a13 c13 a17 c17), row e_S.T e_S.sz a17 (t.f_Writes.xs).length c17 (flat e_S t.f_Writes.xs), row e_S.T e_S.sz a13 (t.f_Reads.xs).length c13 (flat e_S t.f_Reads.xs)]) (l₂ := blk b2 (qzRCopy2) :: blk b1 (qzRCopy1 t) :: F))) ?_
     refine h_next ?_
     refine h_done (by kernel_rfl) ?_
     refine q_conv (L' := blk b3 (qzRCopy3 t a13 c13 a17 c17) :: row e_S.T e_S.sz a17 (t.f_Writes.xs).length c17 (flat e_S t.f_Writes.xs) :: row e_S.T e_S.sz a13 (t.f_Reads.xs).length c13 (flat e_S t.f_Reads.xs) :: blk b2 (qzRCopy2) :: blk b1 (qzRCopy1 t) :: F) (fun w S => S.perm List.perm_append_comm) ?_
     exact q_mid (b3, a13, c13, a17, c17, a10, a14) (by trivial) ⟨(by first | rfl | exact vint (by omega)), (by first | rfl | exact vint (by omega)), (by first | rfl | exact vint (by omega)), (by first | rfl | exact vint (by omega)), (by first | rfl | exact vint (by omega)), (by first | rfl | exact vint (by omega)), (by first | rfl | exact vint (by omega)), (by first | rfl | exact vint (by omega)), (by first | rfl | exact vint (by omega)), (by first | rfl | exact vint (by omega)), (by first | rfl | exact vint (by omega)), (by first | rfl | exact vint (by omega)), (by first | rfl | exact vint (by omega)), (by first | rfl | exact vint (by omega)), (by first | rfl | exact vint (by omega)), (by first | rfl | exact vint (by omega)), (by first | rfl | exact vint (by omega)), trivial⟩ (fun w S => S)
   · -- 13 comes first
    refine l_conv (L' := row e_S.T e_S.sz a14 (([] : List ByteArray)).length 0 (flat e_S ([] : List ByteArray)) :: blk b2 (qzRCopy2) :: blk b1 (qzRCopy1 t) :: F) (fun w S => S.perm List.perm_append_comm) ?_
    refine o_alloc rfl ti30 fun b3 => ?_
    refine l_nil ?_
    refine q_conv (L' := (blk b2 (qzRCopy2) :: blk b1 (qzRCopy1 t) :: F) ++ [blk b3 (qzRCopy2), row e_S.T e_S.sz a14 (([] : List ByteArray)).length 0 (flat e_S ([] : List ByteArray))]) (fun w S => S.perm (List.perm_append_comm (l₁ := [blk b3 (qzRCopy2), row e_S.T e_S.sz a14 (([] : List ByteArray)).length 0 (flat e_S ([] : List ByteArray))]) (l₂ := blk b2 (qzRCopy2) :: blk b1 (qzRCopy1 t) :: F))) ?_
    refine h_next ?_
    refine h_one 4 rfl (by kernel_rfl) ?_
    refine l_conv (L' := blk b3 (qzRCopy2) :: row e_S.T e_S.sz a14 (([] : List ByteArray)).length 0 (flat e_S ([] : List ByteArray)) :: blk b2 (qzRCopy2) :: blk b1 (qzRCopy1 t) :: F) (fun w S => S.perm List.perm_append_comm) ?_
    refine o_lit e_S_ok rfl Tryz.underlying27 rfl rfl rfl (lit_ok rfl) ([] : List ByteArray) rfl rfl fun a10 => ?_
    refine l_nil ?_
    refine q_conv (L' := (blk b2 (qzRCopy2) :: blk b1 (qzRCopy1 t) :: F) ++ [row e_S.T e_S.sz a10 (([] : List ByteArray)).length 0 (flat e_S ([] : List ByteArray)), blk b3 (qzRCopy2), row e_S.T e_S.sz a14 (([] : List ByteArray)).length 0 (flat e_S ([] : List ByteArray))]) (fun w S => S.perm (List.perm_append_comm (l₁ := [row e_S.T e_S.sz a10 (([] : List ByteArray)).length 0 (flat e_S ([] : List ByteArray)), blk b3 (qzRCopy2), row e_S.T e_S.sz a14 (([] : List ByteArray)).length 0 (flat e_S ([] : List ByteArray))]) (l₂ := blk b2 (qzRCopy2) :: blk b1 (qzRCopy1 t) :: F))) ?_
    refine h_next ?_
    refine h_one 7 rfl (by kernel_rfl) ?_
    refine l_conv (L' := row e_S.T e_S.sz a10 (([] : List ByteArray)).length 0 (flat e_S ([] : List ByteArray)) :: blk b3 (qzRCopy2) :: row e_S.T e_S.sz a14 (([] : List ByteArray)).length 0 (flat e_S ([] : List ByteArray)) :: blk b2 (qzRCopy2) :: blk b1 (qzRCopy1 t) :: F) (fun w S => S.perm List.perm_append_comm) ?_
    refine o_append e_S_ok rfl rfl rfl Tryz.underlying27 (TxR.c (TxR.c (TxR.c (TxR.c (TxR.c T_t))))).rr (by show (_ + _) * _ ≤ _; simp only [List.length_nil]; omega) (by simp only [List.length_nil]; omega) fun a13 c13 => ?_
    refine l_eq (t := 13) (v' := .slice a13 (t.f_Reads.xs).length c13) rfl (by rfl) ?_
    refine l_conv (L' := row e_S.T e_S.sz a13 (t.f_Reads.xs).length c13 (flat e_S t.f_Reads.xs) :: _) (fun w S => by exact S) ?_
    refine l_nil ?_
    refine q_conv (L' := (blk b2 (qzRCopy2) :: blk b1 (qzRCopy1 t) :: F) ++ [row e_S.T e_S.sz a13 (t.f_Reads.xs).length c13 (flat e_S t.f_Reads.xs), blk b3 (qzRCopy2), row e_S.T e_S.sz a14 (([] : List ByteArray)).length 0 (flat e_S ([] : List ByteArray))]) (fun w S => S.perm (List.perm_append_comm (l₁ := [row e_S.T e_S.sz a13 (t.f_Reads.xs).length c13 (flat e_S t.f_Reads.xs), blk b3 (qzRCopy2), row e_S.T e_S.sz a14 (([] : List ByteArray)).length 0 (flat e_S ([] : List ByteArray))]) (l₂ := blk b2 (qzRCopy2) :: blk b1 (qzRCopy1 t) :: F))) ?_
    refine h_next ?_
    refine h_one 11 rfl (by kernel_rfl) ?_
    refine l_conv (L' := row e_S.T e_S.sz a13 (t.f_Reads.xs).length c13 (flat e_S t.f_Reads.xs) :: blk b3 (qzRCopy2) :: row e_S.T e_S.sz a14 (([] : List ByteArray)).length 0 (flat e_S ([] : List ByteArray)) :: blk b2 (qzRCopy2) :: blk b1 (qzRCopy1 t) :: F) (fun w S => S.perm List.perm_append_comm) ?_
    refine l_f2 ?_
    refine o_append e_S_ok rfl rfl rfl Tryz.underlying27 (TxR.c (TxR.c (TxR.c (TxR.c (TxR.c T_t))))).rw (by show (_ + _) * _ ≤ _; simp only [List.length_nil]; omega) (by simp only [List.length_nil]; omega) fun a17 c17 => ?_
    refine l_eq (t := 17) (v' := .slice a17 (t.f_Writes.xs).length c17) rfl (by rfl) ?_
    refine l_conv (L' := row e_S.T e_S.sz a17 (t.f_Writes.xs).length c17 (flat e_S t.f_Writes.xs) :: _) (fun w S => by exact S) ?_
    refine l_nil ?_
    refine q_conv (L' := (blk b2 (qzRCopy2) :: blk b1 (qzRCopy1 t) :: F) ++ [row e_S.T e_S.sz a17 (t.f_Writes.xs).length c17 (flat e_S t.f_Writes.xs), row e_S.T e_S.sz a13 (t.f_Reads.xs).length c13 (flat e_S t.f_Reads.xs), blk b3 (qzRCopy2)]) (fun w S => S.perm (List.perm_append_comm (l₁ := [row e_S.T e_S.sz a17 (t.f_Writes.xs).length c17 (flat e_S t.f_Writes.xs), row e_S.T e_S.sz a13 (t.f_Reads.xs).length c13 (flat e_S t.f_Reads.xs), blk b3 (qzRCopy2)]) (l₂ := blk b2 (qzRCopy2) :: blk b1 (qzRCopy1 t) :: F))) ?_
    refine h_next ?_
    refine h_take 12 rfl rfl (by kernel_rfl) (by kernel_rfl) (by kernel_rfl) (fun L0 => v_build rfl sp30 ti30 rfl ((fill_cons (cells' := [.int .i64 t.f_Kind, .slice none 0 0, .slice none 0 0, .slice none 0 0, .int .i64 0]) rfl rfl rfl rfl (fill_cons (cells' := [.int .i64 t.f_Kind, .slice none 0 0, .slice none 0 0, .slice none 0 0, .int .i64 t.f_To]) rfl rfl rfl rfl (fill_cons (cells' := [.int .i64 t.f_Kind, .slice a13 (t.f_Reads.xs).length c13, .slice none 0 0, .slice none 0 0, .int .i64 t.f_To]) rfl rfl rfl rfl (fill_cons (cells' := [.int .i64 t.f_Kind, .slice a13 (t.f_Reads.xs).length c13, .slice a17 (t.f_Writes.xs).length c17, .slice none 0 0, .int .i64 t.f_To]) rfl rfl rfl rfl fill_nil)))))) ?_
    refine h_one 14 rfl (by kernel_rfl) ?_
    refine l_conv (L' := row e_S.T e_S.sz a17 (t.f_Writes.xs).length c17 (flat e_S t.f_Writes.xs) :: row e_S.T e_S.sz a13 (t.f_Reads.xs).length c13 (flat e_S t.f_Reads.xs) :: blk b3 (qzRCopy2) :: blk b2 (qzRCopy2) :: blk b1 (qzRCopy1 t) :: F) (fun w S => S.perm List.perm_append_comm) ?_
    refine l_f2 ?_
    refine o_storen rfl rfl ti30 rfl rfl rfl rfl ?_
    refine l_nil ?_
    refine q_conv (L' := (blk b2 (qzRCopy2) :: blk b1 (qzRCopy1 t) :: F) ++ [blk b3 (qzRCopy3 t a13 c13 a17 c17), row e_S.T e_S.sz a17 (t.f_Writes.xs).length c17 (flat e_S t.f_Writes.xs), row e_S.T e_S.sz a13 (t.f_Reads.xs).length c13 (flat e_S t.f_Reads.xs)]) (fun w S => S.perm (List.perm_append_comm (l₁ := [blk b3 (qzRCopy3 t a13 c13 a17 c17), row e_S.T e_S.sz a17 (t.f_Writes.xs).length c17 (flat e_S t.f_Writes.xs), row e_S.T e_S.sz a13 (t.f_Reads.xs).length c13 (flat e_S t.f_Reads.xs)]) (l₂ := blk b2 (qzRCopy2) :: blk b1 (qzRCopy1 t) :: F))) ?_
    refine h_next ?_
    refine h_done (by kernel_rfl) ?_
    refine q_conv (L' := blk b3 (qzRCopy3 t a13 c13 a17 c17) :: row e_S.T e_S.sz a17 (t.f_Writes.xs).length c17 (flat e_S t.f_Writes.xs) :: row e_S.T e_S.sz a13 (t.f_Reads.xs).length c13 (flat e_S t.f_Reads.xs) :: blk b2 (qzRCopy2) :: blk b1 (qzRCopy1 t) :: F) (fun w S => S.perm List.perm_append_comm) ?_
    exact q_mid (b3, a13, c13, a17, c17, a10, a14) (by trivial) ⟨(by first | rfl | exact vint (by omega)), (by first | rfl | exact vint (by omega)), (by first | rfl | exact vint (by omega)), (by first | rfl | exact vint (by omega)), (by first | rfl | exact vint (by omega)), (by first | rfl | exact vint (by omega)), (by first | rfl | exact vint (by omega)), (by first | rfl | exact vint (by omega)), (by first | rfl | exact vint (by omega)), (by first | rfl | exact vint (by omega)), (by first | rfl | exact vint (by omega)), (by first | rfl | exact vint (by omega)), (by first | rfl | exact vint (by omega)), (by first | rfl | exact vint (by omega)), (by first | rfl | exact vint (by omega)), (by first | rfl | exact vint (by omega)), (by first | rfl | exact vint (by omega)), trivial⟩ (fun w S => S)
  · -- 13 comes first
   refine l_conv (L' := blk b2 (qzRCopy2) :: blk b1 (qzRCopy1 t) :: F) (fun w S => S.perm List.perm_append_comm) ?_
   refine o_alloc rfl ti30 fun b3 => ?_
   refine l_nil ?_
   refine q_conv (L' := (blk b2 (qzRCopy2) :: blk b1 (qzRCopy1 t) :: F) ++ [blk b3 (qzRCopy2)]) (fun w S => S.perm (List.perm_append_comm (l₁ := [blk b3 (qzRCopy2)]) (l₂ := blk b2 (qzRCopy2) :: blk b1 (qzRCopy1 t) :: F))) ?_
   refine h_next ?_
   refine h_many (is := [4, 8]) (by kernel_rfl) (by decide) (forall_cons ⟨_, rfl, ?_⟩ (forall_cons ⟨_, rfl, ?_⟩ forall_nil))
   · -- 4 comes first
    refine l_conv (L' := blk b3 (qzRCopy2) :: blk b2 (qzRCopy2) :: blk b1 (qzRCopy1 t) :: F) (fun w S => S.perm List.perm_append_comm) ?_
    refine o_lit e_S_ok rfl Tryz.underlying27 rfl rfl rfl (lit_ok rfl) ([] : List ByteArray) rfl rfl fun a10 => ?_
    refine l_nil ?_
    refine q_conv (L' := (blk b2 (qzRCopy2) :: blk b1 (qzRCopy1 t) :: F) ++ [row e_S.T e_S.sz a10 (([] : List ByteArray)).length 0 (flat e_S ([] : List ByteArray)), blk b3 (qzRCopy2)]) (fun w S => S.perm (List.perm_append_comm (l₁ := [row e_S.T e_S.sz a10 (([] : List ByteArray)).length 0 (flat e_S ([] : List ByteArray)), blk b3 (qzRCopy2)]) (l₂ := blk b2 (qzRCopy2) :: blk b1 (qzRCopy1 t) :: F))) ?_
    refine h_next ?_
    refine h_many (is := [7, 8]) (by kernel_rfl) (by decide) (forall_cons ⟨_, rfl, ?_⟩ (forall_cons ⟨_, rfl, ?_⟩ forall_nil))
    · -- 7 comes first
     refine l_conv (L' := row e_S.T e_S.sz a10 (([] : List ByteArray)).length 0 (flat e_S ([] : List ByteArray)) :: blk b3 (qzRCopy2) :: blk b2 (qzRCopy2) :: blk b1 (qzRCopy1 t) :: F) (fun w S => S.perm List.perm_append_comm) ?_
     refine o_append e_S_ok rfl rfl rfl Tryz.underlying27 (TxR.c (TxR.c (TxR.c (TxR.c T_t)))).rr (by show (_ + _) * _ ≤ _; simp only [List.length_nil]; omega) (by simp only [List.length_nil]; omega) fun a13 c13 => ?_
     refine l_eq (t := 13) (v' := .slice a13 (t.f_Reads.xs).length c13) rfl (by rfl) ?_
     refine l_conv (L' := row e_S.T e_S.sz a13 (t.f_Reads.xs).length c13 (flat e_S t.f_Reads.xs) :: _) (fun w S => by exact S) ?_
     refine l_nil ?_
     refine q_conv (L' := (blk b2 (qzRCopy2) :: blk b1 (qzRCopy1 t) :: F) ++ [row e_S.T e_S.sz a13 (t.f_Reads.xs).length c13 (flat e_S t.f_Reads.xs), blk b3 (qzRCopy2)]) (fun w S => S.perm (List.perm_append_comm (l₁ := [row e_S.T e_S.sz a13 (t.f_Reads.xs).length c13 (flat e_S t.f_Reads.xs), blk b3 (qzRCopy2)]) (l₂ := blk b2 (qzRCopy2) :: blk b1 (qzRCopy1 t) :: F))) ?_
     refine h_next ?_
     refine h_one 8 rfl (by kernel_rfl) ?_
     refine l_conv (L' := row e_S.T e_S.sz a13 (t.f_Reads.xs).length c13 (flat e_S t.f_Reads.xs) :: blk b3 (qzRCopy2) :: blk b2 (qzRCopy2) :: blk b1 (qzRCopy1 t) :: F) (fun w S => S.perm List.perm_append_comm) ?_
     refine o_lit e_S_ok rfl Tryz.underlying27 rfl rfl rfl (lit_ok rfl) ([] : List ByteArray) rfl rfl fun a14 => ?_
     refine l_nil ?_
     refine q_conv (L' := (blk b2 (qzRCopy2) :: blk b1 (qzRCopy1 t) :: F) ++ [row e_S.T e_S.sz a14 (([] : List ByteArray)).length 0 (flat e_S ([] : List ByteArray)), row e_S.T e_S.sz a13 (t.f_Reads.xs).length c13 (flat e_S t.f_Reads.xs), blk b3 (qzRCopy2)]) (fun w S => S.perm (List.perm_append_comm (l₁ := [row e_S.T e_S.sz a14 (([] : List ByteArray)).length 0 (flat e_S ([] : List ByteArray)), row e_S.T e_S.sz a13 (t.f_Reads.xs).length c13 (flat e_S t.f_Reads.xs), blk b3 (qzRCopy2)]) (l₂ := blk b2 (qzRCopy2) :: blk b1 (qzRCopy1 t) :: F))) ?_
     refine h_next ?_
     refine h_one 11 rfl (by kernel_rfl) ?_
     refine l_conv (L' := row e_S.T e_S.sz a14 (([] : List ByteArray)).length 0 (flat e_S ([] : List ByteArray)) :: row e_S.T e_S.sz a13 (t.f_Reads.xs).length c13 (flat e_S t.f_Reads.xs) :: blk b3 (qzRCopy2) :: blk b2 (qzRCopy2) :: blk b1 (qzRCopy1 t) :: F) (fun w S => S.perm List.perm_append_comm) ?_
     refine o_append e_S_ok rfl rfl rfl Tryz.underlying27 (TxR.c (TxR.c (TxR.c (TxR.c (TxR.c T_t))))).rw (by show (_ + _) * _ ≤ _; simp only [List.length_nil]; omega) (by simp only [List.length_nil]; omega) fun a17 c17 => ?_
     refine l_eq (t := 17) (v' := .slice a17 (t.f_Writes.xs).length c17) rfl (by rfl) ?_
     refine l_conv (L' := row e_S.T e_S.sz a17 (t.f_Writes.xs).length c17 (flat e_S t.f_Writes.xs) :: _) (fun w S => by exact S) ?_
     refine l_nil ?_
     refine q_conv (L' := (blk b2 (qzRCopy2) :: blk b1 (qzRCopy1 t) :: F) ++ [row e_S.T e_S.sz a17 (t.f_Writes.xs).length c17 (flat e_S t.f_Writes.xs), row e_S.T e_S.sz a13 (t.f_Reads.xs).length c13 (flat e_S t.f_Reads.xs), blk b3 (qzRCopy2)]) (fun w S => S.perm (List.perm_append_comm (l₁ := [row e_S.T e_S.sz a17 (t.f_Writes.xs).length c17 (flat e_S t.f_Writes.xs), row e_S.T e_S.sz a13 (t.f_Reads.xs).length c13 (flat e_S t.f_Reads.xs), blk b3 (qzRCopy2)]) (l₂ := blk b2 (qzRCopy2) :: blk b1 (qzRCopy1 t) :: F))) ?_
     refine h_next ?_
     refine h_take 12 rfl rfl (by kernel_rfl) (by kernel_rfl) (by kernel_rfl) (fun L0 => v_build rfl sp30 ti30 rfl ((fill_cons (cells' := [.int .i64 t.f_Kind, .slice none 0 0, .slice none 0 0, .slice none 0 0, .int .i64 0]) rfl rfl rfl rfl (fill_cons (cells' := [.int .i64 t.f_Kind, .slice none 0 0, .slice none 0 0, .slice none 0 0, .int .i64 t.f_To]) rfl rfl rfl rfl (fill_cons (cells' := [.int .i64 t.f_Kind, .slice a13 (t.f_Reads.xs).length c13, .slice none 0 0, .slice none 0 0, .int .i64 t.f_To]) rfl rfl rfl rfl (fill_cons (cells' := [.int .i64 t.f_Kind, .slice a13 (t.f_Reads.xs).length c13, .slice a17 (t.f_Writes.xs).length c17, .slice none 0 0, .int .i64 t.f_To]) rfl rfl rfl rfl fill_nil)))))) ?_
     refine h_one 14 rfl (by kernel_rfl) ?_
     refine l_conv (L' := row e_S.T e_S.sz a17 (t.f_Writes.xs).length c17 (flat e_S t.f_Writes.xs) :: row e_S.T e_S.sz a13 (t.f_Reads.xs).length c13 (flat e_S t.f_Reads.xs) :: blk b3 (qzRCopy2) :: blk b2 (qzRCopy2) :: blk b1 (qzRCopy1 t) :: F) (fun w S => S.perm List.perm_append_comm) ?_
     refine l_f2 ?_
     refine o_storen rfl rfl ti30 rfl rfl rfl rfl ?_
     refine l_nil ?_
     refine q_conv (L' := (blk b2 (qzRCopy2) :: blk b1 (qzRCopy1 t) :: F) ++ [blk b3 (qzRCopy3 t a13 c13 a17 c17), row e_S.T e_S.sz a17 (t.f_Writes.xs).length c17 (flat e_S t.f_Writes.xs), row e_S.T e_S.sz a13 (t.f_Reads.xs).length c13 (flat e_S t.f_Reads.xs)]) (fun w S => S.perm (List.perm_append_comm (l₁ := [blk b3 (qzRCopy3 t a13 c13 a17 c17), row e_S.T e_S.sz a17 (t.f_Writes.xs).length c17 (flat e_S t.f_Writes.xs), row e_S.T e_S.sz a13 (t.f_Reads.xs).length c13 (flat e_S t.f_Reads.xs)]) (l₂ := blk b2 (qzRCopy2) :: blk b1 (qzRCopy1 t) :: F))) ?_
     refine h_next ?_
     refine h_done (by kernel_rfl) ?_
     refine q_conv (L' := blk b3 (qzRCopy3 t a13 c13 a17 c17) :: row e_S.T e_S.sz a17 (t.f_Writes.xs).length c17 (flat e_S t.f_Writes.xs) :: row e_S.T e_S.sz a13 (t.f_Reads.xs).length c13 (flat e_S t.f_Reads.xs) :: blk b2 (qzRCopy2) :: blk b1 (qzRCopy1 t) :: F) (fun w S => S.perm List.perm_append_comm) ?_
     exact q_mid (b3, a13, c13, a17, c17, a10, a14) (by trivial) ⟨(by first | rfl | exact vint (by omega)), (by first | rfl | exact vint (by omega)), (by first | rfl | exact vint (by omega)), (by first | rfl | exact vint (by omega)), (by first | rfl | exact vint (by omega)), (by first | rfl | exact vint (by omega)), (by first | rfl | exact vint (by omega)), (by first | rfl | exact vint (by omega)), (by first | rfl | exact vint (by omega)), (by first | rfl | exact vint (by omega)), (by first | rfl | exact vint (by omega)), (by first | rfl | exact vint (by omega)), (by first | rfl | exact vint (by omega)), (by first | rfl | exact vint (by omega)), (by first | rfl | exact vint (by omega)), (by first | rfl | exact vint (by omega)), (by first | rfl | exact vint (by omega)), trivial⟩ (fun w S => S)
    · -- 8 comes first
     refine l_conv (L' := row e_S.T e_S.sz a10 (([] : List ByteArray)).length 0 (flat e_S ([] : List ByteArray)) :: blk b3 (qzRCopy2) :: blk b2 (qzRCopy2) :: blk b1 (qzRCopy1 t) :: F) (fun w S => S.perm List.perm_append_comm) ?_
     refine o_lit e_S_ok rfl Tryz.underlying27 rfl rfl rfl (lit_ok rfl) ([] : List ByteArray) rfl rfl fun a14 => ?_
     refine l_nil ?_
     refine q_conv (L' := (blk b2 (qzRCopy2) :: blk b1 (qzRCopy1 t) :: F) ++ [row e_S.T e_S.sz a14 (([] : List ByteArray)).length 0 (flat e_S ([] : List ByteArray)), row e_S.T e_S.sz a10 (([] : List ByteArray)).length 0 (flat e_S ([] : List ByteArray)), blk b3 (qzRCopy2)]) (fun w S => S.perm (List.perm_append_comm (l₁ := [row e_S.T e_S.sz a14 (([] : List ByteArray)).length 0 (flat e_S ([] : List ByteArray)), row e_S.T e_S.sz a10 (([] : List ByteArray)).length 0 (flat e_S ([] : List ByteArray)), blk b3 (qzRCopy2)]) (l₂ := blk b2 (qzRCopy2) :: blk b1 (qzRCopy1 t) :: F))) ?_
     refine h_next ?_
     refine h_one 7 rfl (by kernel_rfl) ?_
     refine l_conv (L' := row e_S.T e_S.sz a14 (([] : List ByteArray)).length 0 (flat e_S ([] : List ByteArray)) :: row e_S.T e_S.sz a10 (([] : List ByteArray)).length 0 (flat e_S ([] : List ByteArray)) :: blk b3 (qzRCopy2) :: blk b2 (qzRCopy2) :: blk b1 (qzRCopy1 t) :: F) (fun w S => S.perm List.perm_append_comm) ?_
     refine l_f1 ?_
     refine o_append e_S_ok rfl rfl rfl Tryz.underlying27 (TxR.c (TxR.c (TxR.c (TxR.c (TxR.c T_t))))).rr (by show (_ + _) * _ ≤ _; simp only [List.length_nil]; omega) (by simp only [List.length_nil]; omega) fun a13 c13 => ?_
     refine l_eq (t := 13) (v' := .slice a13 (t.f_Reads.xs).length c13) rfl (by rfl) ?_
     refine l_conv (L' := row e_S.T e_S.sz a13 (t.f_Reads.xs).length c13 (flat e_S t.f_Reads.xs) :: _) (fun w S => by exact S) ?_
     refine l_nil ?_
     refine q_conv (L' := (blk b2 (qzRCopy2) :: blk b1 (qzRCopy1 t) :: F) ++ [row e_S.T e_S.sz a13 (t.f_Reads.xs).length c13 (flat e_S t.f_Reads.xs), row e_S.T e_S.sz a14 (([] : List ByteArray)).length 0 (flat e_S ([] : List ByteArray)), blk b3 (qzRCopy2)]) (fun w S => S.perm (List.perm_append_comm (l₁ := [row e_S.T e_S.sz a13 (t.f_Reads.xs).length c13 (flat e_S t.f_Reads.xs), row e_S.T e_S.sz a14 (([] : List ByteArray)).length 0 (flat e_S ([] : List ByteArray)), blk b3 (qzRCopy2)]) (l₂ := blk b2 (qzRCopy2) :: blk b1 (qzRCopy1 t) :: F))) ?_
     refine h_next ?_
     refine h_one 11 rfl (by kernel_rfl) ?_
     refine l_conv (L' := row e_S.T e_S.sz a13 (t.f_Reads.xs).length c13 (flat e_S t.f_Reads.xs) :: row e_S.T e_S.sz a14 (([] : List ByteArray)).length 0 (flat e_S ([] : List ByteArray)) :: blk b3 (qzRCopy2) :: blk b2 (qzRCopy2) :: blk b1 (qzRCopy1 t) :: F) (fun w S => S.perm List.perm_append_comm) ?_
     refine l_f1 ?_
     refine o_append e_S_ok rfl rfl rfl Tryz.underlying27 (TxR.c (TxR.c (TxR.c (TxR.c (TxR.c T_t))))).rw (by show (_ + _) * _ ≤ _; simp only [List.length_nil]; omega) (by simp only [List.length_nil]; omega) fun a17 c17 => ?_
     refine l_eq (t := 17) (v' := .slice a17 (t.f_Writes.xs).length c17) rfl (by rfl) ?_
     refine l_conv (L' := row e_S.T e_S.sz a17 (t.f_Writes.xs).length c17 (flat e_S t.f_Writes.xs) :: _) (fun w S => by exact S) ?_
     refine l_nil ?_
     refine q_conv (L' := (blk b2 (qzRCopy2) :: blk b1 (qzRCopy1 t) :: F) ++ [row e_S.T e_S.sz a17 (t.f_Writes.xs).length c17 (flat e_S t.f_Writes.xs), row e_S.T e_S.sz a13 (t.f_Reads.xs).length c13 (flat e_S t.f_Reads.xs), blk b3 (qzRCopy2)]) (fun w S => S.perm (List.perm_append_comm (l₁ := [row e_S.T e_S.sz a17 (t.f_Writes.xs).length c17 (flat e_S t.f_Writes.xs), row e_S.T e_S.sz a13 (t.f_Reads.xs).length c13 (flat e_S t.f_Reads.xs), blk b3 (qzRCopy2)]) (l₂ := blk b2 (qzRCopy2) :: blk b1 (qzRCopy1 t) :: F))) ?_
     refine h_next ?_
     refine h_take 12 rfl rfl (by kernel_rfl) (by kernel_rfl) (by kernel_rfl) (fun L0 => v_build rfl sp30 ti30 rfl ((fill_cons (cells' := [.int .i64 t.f_Kind, .slice none 0 0, .slice none 0 0, .slice none 0 0, .int .i64 0]) rfl rfl rfl rfl (fill_cons (cells' := [.int .i64 t.f_Kind, .slice none 0 0, .slice none 0 0, .slice none 0 0, .int .i64 t.f_To]) rfl rfl rfl rfl (fill_cons (cells' := [.int .i64 t.f_Kind, .slice a13 (t.f_Reads.xs).length c13, .slice none 0 0, .slice none 0 0, .int .i64 t.f_To]) rfl rfl rfl rfl (fill_cons (cells' := [.int .i64 t.f_Kind, .slice a13 (t.f_Reads.xs).length c13, .slice a17 (t.f_Writes.xs).length c17, .slice none 0 0, .int .i64 t.f_To]) rfl rfl rfl rfl fill_nil)))))) ?_
     refine h_one 14 rfl (by kernel_rfl) ?_
     refine l_conv (L' := row e_S.T e_S.sz a17 (t.f_Writes.xs).length c17 (flat e_S t.f_Writes.xs) :: row e_S.T e_S.sz a13 (t.f_Reads.xs).length c13 (flat e_S t.f_Reads.xs) :: blk b3 (qzRCopy2) :: blk b2 (qzRCopy2) :: blk b1 (qzRCopy1 t) :: F) (fun w S => S.perm List.perm_append_comm) ?_
     refine l_f2 ?_
     refine o_storen rfl rfl ti30 rfl rfl rfl rfl ?_
     refine l_nil ?_
     refine q_conv (L' := (blk b2 (qzRCopy2) :: blk b1 (qzRCopy1 t) :: F) ++ [blk b3 (qzRCopy3 t a13 c13 a17 c17), row e_S.T e_S.sz a17 (t.f_Writes.xs).length c17 (flat e_S t.f_Writes.xs), row e_S.T e_S.sz a13 (t.f_Reads.xs).length c13 (flat e_S t.f_Reads.xs)]) (fun w S => S.perm (List.perm_append_comm (l₁ := [blk b3 (qzRCopy3 t a13 c13 a17 c17), row e_S.T e_S.sz a17 (t.f_Writes.xs).length c17 (flat e_S t.f_Writes.xs), row e_S.T e_S.sz a13 (t.f_Reads.xs).length c13 (flat e_S t.f_Reads.xs)]) (l₂ := blk b2 (qzRCopy2) :: blk b1 (qzRCopy1 t) :: F))) ?_
     refine h_next ?_
     refine h_done (by kernel_rfl) ?_
     refine q_conv (L' := blk b3 (qzRCopy3 t a13 c13 a17 c17) :: row e_S.T e_S.sz a17 (t.f_Writes.xs).length c17 (flat e_S t.f_Writes.xs) :: row e_S.T e_S.sz a13 (t.f_Reads.xs).length c13 (flat e_S t.f_Reads.xs) :: blk b2 (qzRCopy2) :: blk b1 (qzRCopy1 t) :: F) (fun w S => S.perm List.perm_append_comm) ?_
     exact q_mid (b3, a13, c13, a17, c17, a10, a14) (by trivial) ⟨(by first | rfl | exact vint (by omega)), (by first | rfl | exact vint (by omega)), (by first | rfl | exact vint (by omega)), (by first | rfl | exact vint (by omega)), (by first | rfl | exact vint (by omega)), (by first | rfl | exact vint (by omega)), (by first | rfl | exact vint (by omega)), (by first | rfl | exact vint (by omega)), (by first | rfl | exact vint (by omega)), (by first | rfl | exact vint (by omega)), (by first | rfl | exact vint (by omega)), (by first | rfl | exact vint (by omega)), (by first | rfl | exact vint (by omega)), (by first | rfl | exact vint (by omega)), (by first | rfl | exact vint (by omega)), (by first | rfl | exact vint (by omega)), (by first | rfl | exact vint (by omega)), trivial⟩ (fun w S => S)
   · -- 8 comes first
    refine l_conv (L' := blk b3 (qzRCopy2) :: blk b2 (qzRCopy2) :: blk b1 (qzRCopy1 t) :: F) (fun w S => S.perm List.perm_append_comm) ?_
    refine o_lit e_S_ok rfl Tryz.underlying27 rfl rfl rfl (lit_ok rfl) ([] : List ByteArray) rfl rfl fun a14 => ?_
    refine l_nil ?_
    refine q_conv (L' := (blk b2 (qzRCopy2) :: blk b1 (qzRCopy1 t) :: F) ++ [row e_S.T e_S.sz a14 (([] : List ByteArray)).length 0 (flat e_S ([] : List ByteArray)), blk b3 (qzRCopy2)]) (fun w S => S.perm (List.perm_append_comm (l₁ := [row e_S.T e_S.sz a14 (([] : List ByteArray)).length 0 (flat e_S ([] : List ByteArray)), blk b3 (qzRCopy2)]) (l₂ := blk b2 (qzRCopy2) :: blk b1 (qzRCopy1 t) :: F))) ?_
    refine h_next ?_
    refine h_one 4 rfl (by kernel_rfl) ?_
    refine l_conv (L' := row e_S.T e_S.sz a14 (([] : List ByteArray)).length 0 (flat e_S ([] : List ByteArray)) :: blk b3 (qzRCopy2) :: blk b2 (qzRCopy2) :: blk b1 (qzRCopy1 t) :: F) (fun w S => S.perm List.perm_append_comm) ?_
    refine o_lit e_S_ok rfl Tryz.underlying27 rfl rfl rfl (lit_ok rfl) ([] : List ByteArray) rfl rfl fun a10 => ?_
    refine l_nil ?_
    refine q_conv (L' := (blk b2 (qzRCopy2) :: blk b1 (qzRCopy1 t) :: F) ++ [row e_S.T e_S.sz a10 (([] : List ByteArray)).length 0 (flat e_S ([] : List ByteArray)), row e_S.T e_S.sz a14 (([] : List ByteArray)).length 0 (flat e_S ([] : List ByteArray)), blk b3 (qzRCopy2)]) (fun w S => S.perm (List.perm_append_comm (l₁ := [row e_S.T e_S.sz a10 (([] : List ByteArray)).length 0 (flat e_S ([] : List ByteArray)), row e_S.T e_S.sz a14 (([] : List ByteArray)).length 0 (flat e_S ([] : List ByteArray)), blk b3 (qzRCopy2)]) (l₂ := blk b2 (qzRCopy2) :: blk b1 (qzRCopy1 t) :: F))) ?_
    refine h_next ?_
    refine h_one 7 rfl (by kernel_rfl) ?_
    refine l_conv (L' := row e_S.T e_S.sz a10 (([] : List ByteArray)).length 0 (flat e_S ([] : List ByteArray)) :: row e_S.T e_S.sz a14 (([] : List ByteArray)).length 0 (flat e_S ([] : List ByteArray)) :: blk b3 (qzRCopy2) :: blk b2 (qzRCopy2) :: blk b1 (qzRCopy1 t) :: F) (fun w S => S.perm List.perm_append_comm) ?_
    refine o_append e_S_ok rfl rfl rfl Tryz.underlying27 (TxR.c (TxR.c (TxR.c (TxR.c (TxR.c T_t))))).rr (by show (_ + _) * _ ≤ _; simp only [List.length_nil]; omega) (by simp only [List.length_nil]; omega) fun a13 c13 => ?_
    refine l_eq (t := 13) (v' := .slice a13 (t.f_Reads.xs).length c13) rfl (by rfl) ?_
    refine l_conv (L' := row e_S.T e_S.sz a13 (t.f_Reads.xs).length c13 (flat e_S t.f_Reads.xs) :: _) (fun w S => by exact S) ?_
    refine l_nil ?_
    refine q_conv (L' := (blk b2 (qzRCopy2) :: blk b1 (qzRCopy1 t) :: F) ++ [row e_S.T e_S.sz a13 (t.f_Reads.xs).length c13 (flat e_S t.f_Reads.xs), row e_S.T e_S.sz a14 (([] : List ByteArray)).length 0 (flat e_S ([] : List ByteArray)), blk b3 (qzRCopy2)]) (fun w S => S.perm (List.perm_append_comm (l₁ := [row e_S.T e_S.sz a13 (t.f_Reads.xs).length c13 (flat e_S t.f_Reads.xs), row e_S.T e_S.sz a14 (([] : List ByteArray)).length 0 (flat e_S ([] : List ByteArray)), blk b3 (qzRCopy2)]) (l₂ := blk b2 (qzRCopy2) :: blk b1 (qzRCopy1 t) :: F))) ?_
    refine h_next ?_
    refine h_one 11 rfl (by kernel_rfl) ?_
    refine l_conv (L' := row e_S.T e_S.sz a13 (t.f_Reads.xs).length c13 (flat e_S t.f_Reads.xs) :: row e_S.T e_S.sz a14 (([] : List ByteArray)).length 0 (flat e_S ([] : List ByteArray)) :: blk b3 (qzRCopy2) :: blk b2 (qzRCopy2) :: blk b1 (qzRCopy1 t) :: F) (fun w S => S.perm List.perm_append_comm) ?_
    refine l_f1 ?_
    refine o_append e_S_ok rfl rfl rfl Tryz.underlying27 (TxR.c (TxR.c (TxR.c (TxR.c (TxR.c T_t))))).rw (by show (_ + _) * _ ≤ _; simp only [List.length_nil]; omega) (by simp only [List.length_nil]; omega) fun a17 c17 => ?_
    refine l_eq (t := 17) (v' := .slice a17 (t.f_Writes.xs).length c17) rfl (by rfl) ?_
    refine l_conv (L' := row e_S.T e_S.sz a17 (t.f_Writes.xs).length c17 (flat e_S t.f_Writes.xs) :: _) (fun w S => by exact S) ?_
    refine l_nil ?_
    refine q_conv (L' := (blk b2 (qzRCopy2) :: blk b1 (qzRCopy1 t) :: F) ++ [row e_S.T e_S.sz a17 (t.f_Writes.xs).length c17 (flat e_S t.f_Writes.xs), row e_S.T e_S.sz a13 (t.f_Reads.xs).length c13 (flat e_S t.f_Reads.xs), blk b3 (qzRCopy2)]) (fun w S => S.perm (List.perm_append_comm (l₁ := [row e_S.T e_S.sz a17 (t.f_Writes.xs).length c17 (flat e_S t.f_Writes.xs), row e_S.T e_S.sz a13 (t.f_Reads.xs).length c13 (flat e_S t.f_Reads.xs), blk b3 (qzRCopy2)]) (l₂ := blk b2 (qzRCopy2) :: blk b1 (qzRCopy1 t) :: F))) ?_
    refine h_next ?_
    refine h_take 12 rfl rfl (by kernel_rfl) (by kernel_rfl) (by kernel_rfl) (fun L0 => v_build rfl sp30 ti30 rfl ((fill_cons (cells' := [.int .i64 t.f_Kind, .slice none 0 0, .slice none 0 0, .slice none 0 0, .int .i64 0]) rfl rfl rfl rfl (fill_cons (cells' := [.int .i64 t.f_Kind, .slice none 0 0, .slice none 0 0, .slice none 0 0, .int .i64 t.f_To]) rfl rfl rfl rfl (fill_cons (cells' := [.int .i64 t.f_Kind, .slice a13 (t.f_Reads.xs).length c13, .slice none 0 0, .slice none 0 0, .int .i64 t.f_To]) rfl rfl rfl rfl (fill_cons (cells' := [.int .i64 t.f_Kind, .slice a13 (t.f_Reads.xs).length c13, .slice a17 (t.f_Writes.xs).length c17, .slice none 0 0, .int .i64 t.f_To]) rfl rfl rfl rfl fill_nil)))))) ?_
    refine h_one 14 rfl (by kernel_rfl) ?_
    refine l_conv (L' := row e_S.T e_S.sz a17 (t.f_Writes.xs).length c17 (flat e_S t.f_Writes.xs) :: row e_S.T e_S.sz a13 (t.f_Reads.xs).length c13 (flat e_S t.f_Reads.xs) :: blk b3 (qzRCopy2) :: blk b2 (qzRCopy2) :: blk b1 (qzRCopy1 t) :: F) (fun w S => S.perm List.perm_append_comm) ?_
    refine l_f2 ?_
    refine o_storen rfl rfl ti30 rfl rfl rfl rfl ?_
    refine l_nil ?_
    refine q_conv (L' := (blk b2 (qzRCopy2) :: blk b1 (qzRCopy1 t) :: F) ++ [blk b3 (qzRCopy3 t a13 c13 a17 c17), row e_S.T e_S.sz a17 (t.f_Writes.xs).length c17 (flat e_S t.f_Writes.xs), row e_S.T e_S.sz a13 (t.f_Reads.xs).length c13 (flat e_S t.f_Reads.xs)]) (fun w S => S.perm (List.perm_append_comm (l₁ := [blk b3 (qzRCopy3 t a13 c13 a17 c17), row e_S.T e_S.sz a17 (t.f_Writes.xs).length c17 (flat e_S t.f_Writes.xs), row e_S.T e_S.sz a13 (t.f_Reads.xs).length c13 (flat e_S t.f_Reads.xs)]) (l₂ := blk b2 (qzRCopy2) :: blk b1 (qzRCopy1 t) :: F))) ?_
    refine h_next ?_
    refine h_done (by kernel_rfl) ?_
    refine q_conv (L' := blk b3 (qzRCopy3 t a13 c13 a17 c17) :: row e_S.T e_S.sz a17 (t.f_Writes.xs).length c17 (flat e_S t.f_Writes.xs) :: row e_S.T e_S.sz a13 (t.f_Reads.xs).length c13 (flat e_S t.f_Reads.xs) :: blk b2 (qzRCopy2) :: blk b1 (qzRCopy1 t) :: F) (fun w S => S.perm List.perm_append_comm) ?_
    exact q_mid (b3, a13, c13, a17, c17, a10, a14) (by trivial) ⟨(by first | rfl | exact vint (by omega)), (by first | rfl | exact vint (by omega)), (by first | rfl | exact vint (by omega)), (by first | rfl | exact vint (by omega)), (by first | rfl | exact vint (by omega)), (by first | rfl | exact vint (by omega)), (by first | rfl | exact vint (by omega)), (by first | rfl | exact vint (by omega)), (by first | rfl | exact vint (by omega)), (by first | rfl | exact vint (by omega)), (by first | rfl | exact vint (by omega)), (by first | rfl | exact vint (by omega)), (by first | rfl | exact vint (by omega)), (by first | rfl | exact vint (by omega)), (by first | rfl | exact vint (by omega)), (by first | rfl | exact vint (by omega)), (by first | rfl | exact vint (by omega)), trivial⟩ (fun w S => S)
 · -- behind the cut
  rintro ⟨b3, a13, c13, a17, c17, a10, a14⟩ _hp
  try dsimp only at *
  refine c_seq ?_
  refine c_seq ?_
  refine c_nilrow e_Op ?_
  refine c_conv (L' := stars ((([] : List Op).map Op.f_Value).map (vrow e8)) :: _) (fun w S => S.stars_nil) ?_
  refine c_region ?_
  refine o_assign rfl rfl ?_
  refine l_nil ?_
  refine q_then ?_
  refine c_block ?_
  refine c_loop (α := Nat × (List Op) × (Option Addr) × Nat) (fun z => [(1, .pointer (some ⟨b1, 0, none⟩)), (2, .pointer (some ⟨b2, 0, none⟩)), (3, .pointer (some ⟨b3, 0, none⟩)), (4, .int .i64 (z.1 : Int))]) (fun z => stars ((z.2.1.map Op.f_Value).map (vrow e8)) :: row e_Op.T e_Op.sz z.2.2.1 (z.2.1).length z.2.2.2 (flat e_Op z.2.1) :: blk b3 (.cells #[.int .i64 t.f_Kind, .slice a13 (t.f_Reads.xs).length c13, .slice a17 (t.f_Writes.xs).length c17, .slice z.2.2.1 (z.2.1).length z.2.2.2, .int .i64 t.f_To] 30 (0, 0)) :: row e_S.T e_S.sz a17 (t.f_Writes.xs).length c17 (flat e_S t.f_Writes.xs) :: row e_S.T e_S.sz a13 (t.f_Reads.xs).length c13 (flat e_S t.f_Reads.xs) :: blk b2 (qzRCopy2) :: blk b1 (qzRCopy1 t) :: F) (fun z => z.1 ≤ t.f_Ops.xs.length ∧ z.2.1.length = z.1 ∧ SameOps z.2.1 t.f_Ops.xs z.1) (fun z => t.f_Ops.xs.length - z.1) (0, [], none, 0) (by exact ⟨Nat.zero_le _, rfl, sameOps_0⟩) ⟨(by first | rfl | exact vint (by omega)), (by first | rfl | exact vint (by omega)), (by first | rfl | exact vint (by omega)), (by first | rfl | exact vint (by omega)), trivial⟩ (fun w S => S) ?_
  rintro ⟨i, os, a7, c7⟩ ⟨hi, hol, hso⟩
  try dsimp only at *
  refine c_seq ?_
  refine c_seq ?_
  refine c_region ?_
  refine o_move rfl rfl ?_
  refine o_fieldAddr (q := ⟨b1, 3, none⟩) rfl rfl Tryz.underlying30 rfl ti28 rfl ?_
  refine o_load1 rfl rfl Tryz.underlying28 rfl (rd_mem 6 rfl rfl) ?_
  refine o_len rfl rfl Tryz.underlying28 ?_
  refine o_bin rfl rfl rfl b_lss ?_
  refine l_nil ?_
  refine q_then ?_
  refine c_cond rfl (fun h1 => ?_) (fun h1 => ?_)
  · -- h1T
   have h1b := h1
   try simp only [decide_eq_true_eq] at h1
   refine c_skip ?_
   refine q_then ?_
   refine c_seq ?_
   refine c_block ?_
   refine c_seq ?_
   refine c_region ?_
   refine o_fieldAddr (q := ⟨b1, 3, none⟩) rfl rfl Tryz.underlying30 rfl ti28 rfl ?_
   refine o_load1 rfl rfl Tryz.underlying28 rfl (rd_mem 6 rfl rfl) ?_
   refine o_move rfl rfl ?_
   refine o_index e_Op_ok rfl rfl rfl Tryz.underlying28 (by omega) (by omega) (TxR.c (TxR.c (TxR.c (TxR.c (TxR.c (TxR.c (TxR.c T_t))))))).ro fun ad29 ead29 => ?_
   obtain ⟨x29, hx29⟩ : ∃ x, (t.f_Ops.xs)[((i : Int)).toNat]? = some x := ⟨_, List.getElem?_eq_getElem (by omega)⟩
   have hv29 := small.op hx29
   refine o_loadn (vs := e_Op.cells x29) rfl rfl Tryz.underlying92 rfl ti92 (rdn_sl e_Op_ok ead29 (TxR.c (TxR.c (TxR.c (TxR.c (TxR.c (TxR.c (TxR.c T_t))))))).ro hx29) ?_
   refine o_alloc rfl ti92 fun b5 => ?_
   refine o_storen rfl rfl ti92 rfl rfl rfl rfl ?_
   refine l_nil ?_
   refine q_then ?_
   refine c_seq ?_
   refine c_region ?_
   refine o_lit e8_ok rfl Tryz.underlying34 rfl rfl rfl (lit_ok rfl) ([] : List UInt8) rfl rfl fun a31 => ?_
   refine o_fieldAddr (q := ⟨b1, 3, none⟩) rfl rfl Tryz.underlying30 rfl ti28 rfl ?_
   refine o_load1 rfl rfl Tryz.underlying28 rfl (rd_mem 8 rfl rfl) ?_
   refine o_move rfl rfl ?_
   refine o_indexK e_Op_ok ead29 rfl rfl rfl Tryz.underlying28 (by omega) (by omega) ?_
   obtain ⟨x35, hx35⟩ : ∃ x, (t.f_Ops.xs)[((i : Int)).toNat]? = some x := ⟨_, List.getElem?_eq_getElem (by omega)⟩
   have e35 : x35 = x29 := by rw [hx29] at hx35; exact (Option.some.inj hx35).symm
   have hv35 := small.op hx35
   refine o_fieldAddr rfl rfl Tryz.underlying92 rfl ti34 (Addr.add_add' _ _ _) ?_
   refine o_load1 rfl rfl Tryz.underlying34 rfl (rd_sl e_Op_ok ead29 (TxR.c (TxR.c (TxR.c (TxR.c (TxR.c (TxR.c (TxR.c (TxR.c (TxR.c T_t))))))))).ro hx35 rfl) ?_
   refine o_append e8_ok rfl rfl rfl Tryz.underlying34 ((TxR.c (TxR.c (TxR.c (TxR.c (TxR.c (TxR.c (TxR.c (TxR.c (TxR.c T_t))))))))).rv x35 (List.mem_of_getElem? hx35)) (by show (_ + _) * _ ≤ _; simp only [List.length_nil]; omega) (by simp only [List.length_nil]; omega) fun a38 c38 => ?_
   refine l_eq (t := 38) (v' := .slice a38 (x29.f_Value.xs).length c38) rfl (by rw [e35]; rfl) ?_
   refine l_conv (L' := row e8.T e8.sz a38 (x29.f_Value.xs).length c38 (flat e8 x29.f_Value.xs) :: _) (fun w S => by rw [e35] at S; exact S) ?_
   refine o_fieldAddr (q := ⟨b5, 2, none⟩) rfl rfl Tryz.underlying92 rfl ti34 rfl ?_
   refine l_f1 ?_
   refine o_store1 rfl rfl rfl ti34 rfl rfl ?_
   refine l_nil ?_
   refine q_then ?_
   refine c_region ?_
   refine o_fieldAddr (q := ⟨b3, 3, none⟩) rfl rfl Tryz.underlying30 rfl ti28 rfl ?_
   refine o_load1 rfl rfl Tryz.underlying28 rfl (rd_mem 4 rfl rfl) ?_
   refine o_loadn (vs := [_, _, _, _]) rfl rfl Tryz.underlying92 rfl ti92 (rdn_lit 0 rfl rfl) ?_
   refine o_lit e_Op_ok rfl Tryz.underlying28 rfl rfl rfl (lit_ok rfl) [⟨x29.f_Kind, x29.f_Key, ⟨a38, x29.f_Value.xs, c38⟩, x29.f_N⟩] rfl rfl fun a43 => ?_
   refine l_f4 ?_
   refine o_append e_Op_ok rfl rfl rfl Tryz.underlying28 (rds_own e_Op_ok 1 rfl) (by show (_ + _) * _ ≤ _; simp only [List.length_cons, List.length_nil]; omega) (by simp only [List.length_cons, List.length_nil]; omega) fun a44 c44 => ?_
   refine l_f1 ?_
   refine l_drop ?_
   refine o_fieldAddr (q := ⟨b3, 3, none⟩) rfl rfl Tryz.underlying30 rfl ti28 rfl ?_
   refine l_f4 ?_
   refine o_store1 rfl rfl rfl ti28 rfl rfl ?_
   refine l_nil ?_
   refine q_block ?_
   refine q_then ?_
   refine c_region ?_
   refine o_move rfl rfl ?_
   refine o_bin rfl rfl rfl (b_add (wrap_i64 (by omega) (by omega))) ?_
   refine o_assign rfl rfl ?_
   refine l_nil ?_
   refine q_conv (fun w S => S.perm p8) ?_
   refine q_conv (fun w S => S.perm p8) ?_
   refine q_conv (fun w S => S.perm p8) ?_
   refine q_conv (fun w S => S.perm p8) ?_
   refine q_conv (fun w S => S.perm p6) ?_
   refine q_conv (fun w S => S.perm p6) ?_
   refine q_conv (fun w S => S.perm p6) ?_
   refine q_conv (fun w S => S.perm p8) ?_
   refine q_conv (fun w S => S.perm p8) ?_
   refine q_conv (L' := stars (((os ++ [(⟨x29.f_Kind, x29.f_Key, ⟨a38, x29.f_Value.xs, c38⟩, x29.f_N⟩ : Op)]).map Op.f_Value).map (vrow e8)) :: _) (fun w S => vals_snoc (y := (⟨x29.f_Kind, x29.f_Key, ⟨a38, x29.f_Value.xs, c38⟩, x29.f_N⟩ : Op)) S) ?_
   refine q_conv (fun w S => (S.perm p3).tail) ?_
   refine q_conv (fun w S => S.perm p6) ?_
   refine q_conv (fun w S => S.perm p6) ?_
   refine q_conv (fun w S => S.perm p6) ?_
   refine q_conv (fun w S => S.perm p6) ?_
   refine q_conv (fun w S => S.perm p5) ?_
   refine q_conv (fun w S => S.perm p6) ?_
   refine q_conv (fun w S => S.perm p6) ?_
   exact q_round (i + 1, os ++ [(⟨x29.f_Kind, x29.f_Key, ⟨a38, x29.f_Value.xs, c38⟩, x29.f_N⟩ : Op)], a44, c44) (by exact ⟨by omega, by simp [hol], copied_on hso hol hx29 ⟨rfl, rfl, rfl, rfl⟩⟩) (by (try dsimp only); omega) ⟨(by first | rfl | exact vint (by omega)), (by first | rfl | exact vint (by omega)), (by first | rfl | exact vint (by omega)), (by first | rfl | exact vint (by omega)), trivial⟩ (fun w S => S)
  · -- h1F
   have h1b := h1
   try simp only [decide_eq_false_iff_not, Int.not_lt, Int.not_le] at h1
   refine c_exit ?_
   refine q_pass_exit ?_
   refine q_pass_exit ?_
   refine q_hit ?_
   refine q_then ?_
   refine c_seq ?_
   refine c_region ?_
   refine o_loadn (vs := [_, _, _, _, _]) rfl rfl Tryz.underlying30 rfl ti30 (rdn_lit 2 rfl rfl) ?_
   refine l_f5 ?_
   refine o_storen rfl rfl ti30 rfl rfl rfl rfl ?_
   refine l_nil ?_
   refine q_then ?_
   refine c_ret ?_
   refine f_retq (.inl rfl) (rs_1 rfl (rs_celln (vs := [.int .i64 t.f_Kind, .slice a13 (t.f_Reads.xs).length c13, .slice a17 (t.f_Writes.xs).length c17, .slice a7 (os).length c7, .int .i64 t.f_To]) rfl Tryz.underlying30 rfl ti30 (rdn_lit 0 rfl rfl))) (fun w S => ?_)
   replace S := S.tail
   replace S := (S.perm p2).tail
   replace S := (S.perm p4).tail
   replace S := S.perm p1
   replace S := S.perm p2
   replace S := S.perm p3
   exact ⟨_, ⟨⟨t.f_Kind, ⟨a13, t.f_Reads.xs, c13⟩, ⟨a17, t.f_Writes.xs, c17⟩, ⟨a7, os, c7⟩, t.f_To⟩, ⟨rfl, rfl, rfl, rfl, by (try dsimp only); omega, fun j x y hj => hso j x y (by (try dsimp only at hj); omega)⟩, rfl, rfl⟩, (fun w S => Sat.unflat (Ls := txL ⟨t.f_Kind, ⟨a13, t.f_Reads.xs, c13⟩, ⟨a17, t.f_Writes.xs, c17⟩, ⟨a7, os, c7⟩, t.f_To⟩) S) w S⟩
end
section
set_option linter.unusedVariables false
set_option linter.unusedSimpArgs false
set_option maxRecDepth 10000
open Go.RowKit Classical
abbrev qzOCopyR1 (o : Order) : Obj := .cells #[.int .i64 o.f_Tag_Id_Node, .int .u64 o.f_Tag_Id_Epoch, .int .u64 o.f_Tag_Id_Seq, .int .i64 o.f_Tag_Try, .int .i64 o.f_Txn_Kind, .slice o.f_Txn_Reads.a (o.f_Txn_Reads.xs).length o.f_Txn_Reads.c, .slice o.f_Txn_Writes.a (o.f_Txn_Writes.xs).length o.f_Txn_Writes.c, .slice o.f_Txn_Ops.a (o.f_Txn_Ops.xs).length o.f_Txn_Ops.c, .int .i64 o.f_Txn_To, .slice o.f_Marks.a (o.f_Marks.xs).length o.f_Marks.c] 33 (0, 0)
abbrev qzOCopyR2 : Obj := .cells #[.int .i64 0, .int .u64 0, .int .u64 0, .int .i64 0, .int .i64 0, .slice none 0 0, .slice none 0 0, .slice none 0 0, .int .i64 0, .slice none 0 0] 33 (0, 0)
abbrev qzOCopyR3 (o : Order) (c7 : Txn) (a11 : Option Addr) (c11 : Nat) : Obj := .cells #[.int .i64 o.f_Tag_Id_Node, .int .u64 o.f_Tag_Id_Epoch, .int .u64 o.f_Tag_Id_Seq, .int .i64 o.f_Tag_Try, .int .i64 c7.f_Kind, .slice c7.f_Reads.a (c7.f_Reads.xs).length c7.f_Reads.c, .slice c7.f_Writes.a (c7.f_Writes.xs).length c7.f_Writes.c, .slice c7.f_Ops.a (c7.f_Ops.xs).length c7.f_Ops.c, .int .i64 c7.f_To, .slice a11 (o.f_Marks.xs).length c11] 33 (0, 0)
theorem rocopy_ {W : World} {F : List Res} {o : Order} (T_o : OrdR W F o) (small : OSmall o) : CS Tryz.prog 7 #[.agg #[.int .i64 o.f_Tag_Id_Node, .int .u64 o.f_Tag_Id_Epoch, .int .u64 o.f_Tag_Id_Seq, .int .i64 o.f_Tag_Try, .int .i64 o.f_Txn_Kind, .slice o.f_Txn_Reads.a (o.f_Txn_Reads.xs).length o.f_Txn_Reads.c, .slice o.f_Txn_Writes.a (o.f_Txn_Writes.xs).length o.f_Txn_Writes.c, .slice o.f_Txn_Ops.a (o.f_Txn_Ops.xs).length o.f_Txn_Ops.c, .int .i64 o.f_Txn_To, .slice o.f_Marks.a (o.f_Marks.xs).length o.f_Marks.c]] W (F) (fun r L' => ∃ c : Order, SameO c o ∧ r = .agg (e_Order.cells c).toArray ∧ L' = ordM c :: F) := by
 have hlm := small.m
 refine f_door (l0 := [(0, .agg #[.int .i64 o.f_Tag_Id_Node, .int .u64 o.f_Tag_Id_Epoch, .int .u64 o.f_Tag_Id_Seq, .int .i64 o.f_Tag_Try, .int .i64 o.f_Txn_Kind, .slice o.f_Txn_Reads.a (o.f_Txn_Reads.xs).length o.f_Txn_Reads.c, .slice o.f_Txn_Writes.a (o.f_Txn_Writes.xs).length o.f_Txn_Writes.c, .slice o.f_Txn_Ops.a (o.f_Txn_Ops.xs).length o.f_Txn_Ops.c, .int .i64 o.f_Txn_To, .slice o.f_Marks.a (o.f_Marks.xs).length o.f_Marks.c])]) Tryz.func7 Tryz.ntmps7 rfl rfl rfl ?_
 refine c_seq ?_
 refine c_region ?_
 refine o_box rfl rfl fun b1 => ?_
 refine o_alloc rfl ti33 fun b2 => ?_
 refine l_nil ?_
 refine q_then ?_
 refine c_seq ?_
 refine c_mid (α := Txn × (Option Addr) × Nat × (Option Addr)) (fun z => [(0, .agg #[.int .i64 o.f_Tag_Id_Node, .int .u64 o.f_Tag_Id_Epoch, .int .u64 o.f_Tag_Id_Seq, .int .i64 o.f_Tag_Try, .int .i64 o.f_Txn_Kind, .slice o.f_Txn_Reads.a (o.f_Txn_Reads.xs).length o.f_Txn_Reads.c, .slice o.f_Txn_Writes.a (o.f_Txn_Writes.xs).length o.f_Txn_Writes.c, .slice o.f_Txn_Ops.a (o.f_Txn_Ops.xs).length o.f_Txn_Ops.c, .int .i64 o.f_Txn_To, .slice o.f_Marks.a (o.f_Marks.xs).length o.f_Marks.c]), (1, .pointer (some ⟨b1, 0, none⟩)), (2, .pointer (some ⟨b2, 0, none⟩)), (3, .pointer (some ⟨b1, 0, none⟩)), (4, .agg #[.int .i64 o.f_Tag_Id_Node, .int .u64 o.f_Tag_Id_Epoch, .int .u64 o.f_Tag_Id_Seq, .int .i64 o.f_Tag_Try]), (5, .pointer (some ⟨b1, 4, none⟩)), (6, .agg #[.int .i64 o.f_Txn_Kind, .slice o.f_Txn_Reads.a (o.f_Txn_Reads.xs).length o.f_Txn_Reads.c, .slice o.f_Txn_Writes.a (o.f_Txn_Writes.xs).length o.f_Txn_Writes.c, .slice o.f_Txn_Ops.a (o.f_Txn_Ops.xs).length o.f_Txn_Ops.c, .int .i64 o.f_Txn_To]), (7, .agg #[.int .i64 z.1.f_Kind, .slice z.1.f_Reads.a (z.1.f_Reads.xs).length z.1.f_Reads.c, .slice z.1.f_Writes.a (z.1.f_Writes.xs).length z.1.f_Writes.c, .slice z.1.f_Ops.a (z.1.f_Ops.xs).length z.1.f_Ops.c, .int .i64 z.1.f_To]), (8, .slice z.2.2.2 (([] : List Mark)).length 0), (9, .pointer (some ⟨b1, 9, none⟩)), (10, .slice o.f_Marks.a (o.f_Marks.xs).length o.f_Marks.c), (11, .slice z.2.1 (o.f_Marks.xs).length z.2.2.1), (12, .agg #[.int .i64 o.f_Tag_Id_Node, .int .u64 o.f_Tag_Id_Epoch, .int .u64 o.f_Tag_Id_Seq, .int .i64 o.f_Tag_Try, .int .i64 z.1.f_Kind, .slice z.1.f_Reads.a (z.1.f_Reads.xs).length z.1.f_Reads.c, .slice z.1.f_Writes.a (z.1.f_Writes.xs).length z.1.f_Writes.c, .slice z.1.f_Ops.a (z.1.f_Ops.xs).length z.1.f_Ops.c, .int .i64 z.1.f_To, .slice z.2.1 (o.f_Marks.xs).length z.2.2.1])]) (fun z => blk b2 (.cells #[.int .i64 o.f_Tag_Id_Node, .int .u64 o.f_Tag_Id_Epoch, .int .u64 o.f_Tag_Id_Seq, .int .i64 o.f_Tag_Try, .int .i64 z.1.f_Kind, .slice z.1.f_Reads.a (z.1.f_Reads.xs).length z.1.f_Reads.c, .slice z.1.f_Writes.a (z.1.f_Writes.xs).length z.1.f_Writes.c, .slice z.1.f_Ops.a (z.1.f_Ops.xs).length z.1.f_Ops.c, .int .i64 z.1.f_To, .slice z.2.1 (o.f_Marks.xs).length z.2.2.1] 33 (0, 0)) :: row e_Mark.T e_Mark.sz z.2.1 (o.f_Marks.xs).length z.2.2.1 (flat e_Mark o.f_Marks.xs) :: txM z.1 :: blk b1 (qzOCopyR1 o) :: F) (fun z => SameT z.1 o.txn ∧ TxLen z.1) ?_ ?_
 · -- cut
  refine c_conv (fun w S => S.perm p1) ?_
  refine c_conv (fun w S => S.perm p1) ?_
  refine c_heldF [blk b2 (qzOCopyR2)] (blk b1 (qzOCopyR1 o) :: F) (by kernel_rfl) ?_
  refine h_take 0 rfl rfl (by kernel_rfl) (by kernel_rfl) (by kernel_rfl) (fun L0 => v_fieldAddr (q := ⟨b1, 0, none⟩) rfl rfl Tryz.underlying33 rfl ti26 rfl) ?_
  refine h_take 1 rfl rfl (by kernel_rfl) (by kernel_rfl) (by kernel_rfl) (fun L0 => v_loadn (vs := [_, _, _, _]) rfl rfl Tryz.underlying26 rfl ti26 (rdn_lit 0 rfl rfl)) ?_
  refine h_take 2 rfl rfl (by kernel_rfl) (by kernel_rfl) (by kernel_rfl) (fun L0 => v_fieldAddr (q := ⟨b1, 4, none⟩) rfl rfl Tryz.underlying33 rfl ti30 rfl) ?_
  refine h_take 3 rfl rfl (by kernel_rfl) (by kernel_rfl) (by kernel_rfl) (fun L0 => v_loadn (vs := [_, _, _, _, _]) rfl rfl Tryz.underlying30 rfl ti30 (rdn_lit 0 rfl rfl)) ?_
  refine h_take 6 rfl rfl (by kernel_rfl) (by kernel_rfl) (by kernel_rfl) (fun L0 => v_fieldAddr (q := ⟨b1, 9, none⟩) rfl rfl Tryz.underlying33 rfl ti31 rfl) ?_
  refine h_take 7 rfl rfl (by kernel_rfl) (by kernel_rfl) (by kernel_rfl) (fun L0 => v_load1 rfl rfl Tryz.underlying31 rfl (rd_mem 0 rfl rfl)) ?_
  refine h_many (is := [4, 5]) (by kernel_rfl) (by decide) (forall_cons ⟨_, rfl, ?_⟩ (forall_cons ⟨_, rfl, ?_⟩ forall_nil))
  · -- 4 comes first
   refine l_conv (L' := blk b2 (qzOCopyR2) :: blk b1 (qzOCopyR1 o) :: F) (fun w S => S.perm List.perm_append_comm) ?_
   refine o_call rfl cal21 rfl (copy_ (t := o.txn) (OrdR.txn (OrdR.c (OrdR.c T_o))) small.tx) ?_
   rintro _ _ ⟨c7, hs_c7, rfl, rfl⟩
   have L_c7 : TxLen c7 := TxLen.same (OrdR.txn T_o).len hs_c7
   refine l_nil ?_
   refine q_conv (L' := (blk b1 (qzOCopyR1 o) :: F) ++ [txM c7, blk b2 (qzOCopyR2)]) (fun w S => S.perm (List.perm_append_comm (l₁ := [txM c7, blk b2 (qzOCopyR2)]) (l₂ := blk b1 (qzOCopyR1 o) :: F))) ?_
   refine h_next ?_
   refine h_one 5 rfl (by kernel_rfl) ?_
   refine l_conv (L' := txM c7 :: blk b2 (qzOCopyR2) :: blk b1 (qzOCopyR1 o) :: F) (fun w S => S.perm List.perm_append_comm) ?_
   refine o_lit e_Mark_ok rfl Tryz.underlying31 rfl rfl rfl (lit_ok rfl) ([] : List Mark) rfl rfl fun a8 => ?_
   refine l_nil ?_
   refine q_conv (L' := (blk b1 (qzOCopyR1 o) :: F) ++ [row e_Mark.T e_Mark.sz a8 (([] : List Mark)).length 0 (flat e_Mark ([] : List Mark)), txM c7, blk b2 (qzOCopyR2)]) (fun w S => S.perm (List.perm_append_comm (l₁ := [row e_Mark.T e_Mark.sz a8 (([] : List Mark)).length 0 (flat e_Mark ([] : List Mark)), txM c7, blk b2 (qzOCopyR2)]) (l₂ := blk b1 (qzOCopyR1 o) :: F))) ?_
   refine h_next ?_
   refine h_one 8 rfl (by kernel_rfl) ?_
   refine l_conv (L' := row e_Mark.T e_Mark.sz a8 (([] : List Mark)).length 0 (flat e_Mark ([] : List Mark)) :: txM c7 :: blk b2 (qzOCopyR2) :: blk b1 (qzOCopyR1 o) :: F) (fun w S => S.perm List.perm_append_comm) ?_
   refine o_append e_Mark_ok rfl rfl rfl Tryz.underlying31 (OrdR.c (OrdR.c (OrdR.c (OrdR.c T_o)))).rm (by show (_ + _) * _ ≤ _; simp only [List.length_nil]; omega) (by simp only [List.length_nil]; omega) fun a11 c11 => ?_
   refine l_eq (t := 11) (v' := .slice a11 (o.f_Marks.xs).length c11) rfl (by rfl) ?_
   refine l_conv (L' := row e_Mark.T e_Mark.sz a11 (o.f_Marks.xs).length c11 (flat e_Mark o.f_Marks.xs) :: _) (fun w S => by exact S) ?_
   refine l_nil ?_
   refine q_conv (L' := (blk b1 (qzOCopyR1 o) :: F) ++ [row e_Mark.T e_Mark.sz a11 (o.f_Marks.xs).length c11 (flat e_Mark o.f_Marks.xs), txM c7, blk b2 (qzOCopyR2)]) (fun w S => S.perm (List.perm_append_comm (l₁ := [row e_Mark.T e_Mark.sz a11 (o.f_Marks.xs).length c11 (flat e_Mark o.f_Marks.xs), txM c7, blk b2 (qzOCopyR2)]) (l₂ := blk b1 (qzOCopyR1 o) :: F))) ?_
   refine h_next ?_
   refine h_take 9 rfl rfl (by kernel_rfl) (by kernel_rfl) (by kernel_rfl) (fun L0 => v_build rfl sp33 ti33 rfl ((fill_cons (cells' := [.int .i64 o.f_Tag_Id_Node, .int .u64 o.f_Tag_Id_Epoch, .int .u64 o.f_Tag_Id_Seq, .int .i64 o.f_Tag_Try, .int .i64 0, .slice none 0 0, .slice none 0 0, .slice none 0 0, .int .i64 0, .slice none 0 0]) rfl rfl rfl rfl (fill_cons (cells' := [.int .i64 o.f_Tag_Id_Node, .int .u64 o.f_Tag_Id_Epoch, .int .u64 o.f_Tag_Id_Seq, .int .i64 o.f_Tag_Try, .int .i64 c7.f_Kind, .slice c7.f_Reads.a (c7.f_Reads.xs).length c7.f_Reads.c, .slice c7.f_Writes.a (c7.f_Writes.xs).length c7.f_Writes.c, .slice c7.f_Ops.a (c7.f_Ops.xs).length c7.f_Ops.c, .int .i64 c7.f_To, .slice none 0 0]) rfl rfl rfl rfl (fill_cons (cells' := [.int .i64 o.f_Tag_Id_Node, .int .u64 o.f_Tag_Id_Epoch, .int .u64 o.f_Tag_Id_Seq, .int .i64 o.f_Tag_Try, .int .i64 c7.f_Kind, .slice c7.f_Reads.a (c7.f_Reads.xs).length c7.f_Reads.c, .slice c7.f_Writes.a (c7.f_Writes.xs).length c7.f_Writes.c, .slice c7.f_Ops.a (c7.f_Ops.xs).length c7.f_Ops.c, .int .i64 c7.f_To, .slice a11 (o.f_Marks.xs).length c11]) rfl rfl rfl rfl fill_nil))))) ?_
   refine h_one 10 rfl (by kernel_rfl) ?_
   refine l_conv (L' := row e_Mark.T e_Mark.sz a11 (o.f_Marks.xs).length c11 (flat e_Mark o.f_Marks.xs) :: txM c7 :: blk b2 (qzOCopyR2) :: blk b1 (qzOCopyR1 o) :: F) (fun w S => S.perm List.perm_append_comm) ?_
   refine l_f2 ?_
   refine o_storen rfl rfl ti33 rfl rfl rfl rfl ?_
   refine l_nil ?_
   refine q_conv (L' := (blk b1 (qzOCopyR1 o) :: F) ++ [blk b2 (qzOCopyR3 o c7 a11 c11), row e_Mark.T e_Mark.sz a11 (o.f_Marks.xs).length c11 (flat e_Mark o.f_Marks.xs), txM c7]) (fun w S => S.perm (List.perm_append_comm (l₁ := [blk b2 (qzOCopyR3 o c7 a11 c11), row e_Mark.T e_Mark.sz a11 (o.f_Marks.xs).length c11 (flat e_Mark o.f_Marks.xs), txM c7]) (l₂ := blk b1 (qzOCopyR1 o) :: F))) ?_
   refine h_next ?_
   refine h_done (by kernel_rfl) ?_
   refine q_conv (L' := blk b2 (qzOCopyR3 o c7 a11 c11) :: row e_Mark.T e_Mark.sz a11 (o.f_Marks.xs).length c11 (flat e_Mark o.f_Marks.xs) :: txM c7 :: blk b1 (qzOCopyR1 o) :: F) (fun w S => S.perm List.perm_append_comm) ?_
   exact q_mid (c7, a11, c11, a8) (by exact ⟨hs_c7, L_c7⟩) ⟨(by first | rfl | exact vint (by omega)), (by first | rfl | exact vint (by omega)), (by first | rfl | exact vint (by omega)), (by first | rfl | exact vint (by omega)), (by first | rfl | exact vint (by omega)), (by first | rfl | exact vint (by omega)), (by first | rfl | exact vint (by omega)), (by first | rfl | exact vint (by omega)), (by first | rfl | exact vint (by omega)), (by first | rfl | exact vint (by omega)), (by first | rfl | exact vint (by omega)), (by first | rfl | exact vint (by omega)), (by first | rfl | exact vint (by omega)), trivial⟩ (fun w S => S)
  · -- 5 comes first
   refine l_conv (L' := blk b2 (qzOCopyR2) :: blk b1 (qzOCopyR1 o) :: F) (fun w S => S.perm List.perm_append_comm) ?_
   refine o_lit e_Mark_ok rfl Tryz.underlying31 rfl rfl rfl (lit_ok rfl) ([] : List Mark) rfl rfl fun a8 => ?_
   refine l_nil ?_
   refine q_conv (L' := (blk b1 (qzOCopyR1 o) :: F) ++ [row e_Mark.T e_Mark.sz a8 (([] : List Mark)).length 0 (flat e_Mark ([] : List Mark)), blk b2 (qzOCopyR2)]) (fun w S => S.perm (List.perm_append_comm (l₁ := [row e_Mark.T e_Mark.sz a8 (([] : List Mark)).length 0 (flat e_Mark ([] : List Mark)), blk b2 (qzOCopyR2)]) (l₂ := blk b1 (qzOCopyR1 o) :: F))) ?_
   refine h_next ?_
   refine h_one 4 rfl (by kernel_rfl) ?_
   refine l_conv (L' := row e_Mark.T e_Mark.sz a8 (([] : List Mark)).length 0 (flat e_Mark ([] : List Mark)) :: blk b2 (qzOCopyR2) :: blk b1 (qzOCopyR1 o) :: F) (fun w S => S.perm List.perm_append_comm) ?_
   refine o_call rfl cal21 rfl (copy_ (t := o.txn) (OrdR.txn (OrdR.c (OrdR.c (OrdR.c T_o)))) small.tx) ?_
   rintro _ _ ⟨c7, hs_c7, rfl, rfl⟩
   have L_c7 : TxLen c7 := TxLen.same (OrdR.txn T_o).len hs_c7
   refine l_nil ?_
   refine q_conv (L' := (blk b1 (qzOCopyR1 o) :: F) ++ [txM c7, row e_Mark.T e_Mark.sz a8 (([] : List Mark)).length 0 (flat e_Mark ([] : List Mark)), blk b2 (qzOCopyR2)]) (fun w S => S.perm (List.perm_append_comm (l₁ := [txM c7, row e_Mark.T e_Mark.sz a8 (([] : List Mark)).length 0 (flat e_Mark ([] : List Mark)), blk b2 (qzOCopyR2)]) (l₂ := blk b1 (qzOCopyR1 o) :: F))) ?_
   refine h_next ?_
   refine h_one 8 rfl (by kernel_rfl) ?_
   refine l_conv (L' := txM c7 :: row e_Mark.T e_Mark.sz a8 (([] : List Mark)).length 0 (flat e_Mark ([] : List Mark)) :: blk b2 (qzOCopyR2) :: blk b1 (qzOCopyR1 o) :: F) (fun w S => S.perm List.perm_append_comm) ?_
   refine l_f1 ?_
   refine o_append e_Mark_ok rfl rfl rfl Tryz.underlying31 (OrdR.c (OrdR.c (OrdR.c (OrdR.c T_o)))).rm (by show (_ + _) * _ ≤ _; simp only [List.length_nil]; omega) (by simp only [List.length_nil]; omega) fun a11 c11 => ?_
   refine l_eq (t := 11) (v' := .slice a11 (o.f_Marks.xs).length c11) rfl (by rfl) ?_
   refine l_conv (L' := row e_Mark.T e_Mark.sz a11 (o.f_Marks.xs).length c11 (flat e_Mark o.f_Marks.xs) :: _) (fun w S => by exact S) ?_
   refine l_nil ?_
   refine q_conv (L' := (blk b1 (qzOCopyR1 o) :: F) ++ [row e_Mark.T e_Mark.sz a11 (o.f_Marks.xs).length c11 (flat e_Mark o.f_Marks.xs), txM c7, blk b2 (qzOCopyR2)]) (fun w S => S.perm (List.perm_append_comm (l₁ := [row e_Mark.T e_Mark.sz a11 (o.f_Marks.xs).length c11 (flat e_Mark o.f_Marks.xs), txM c7, blk b2 (qzOCopyR2)]) (l₂ := blk b1 (qzOCopyR1 o) :: F))) ?_
   refine h_next ?_
   refine h_take 9 rfl rfl (by kernel_rfl) (by kernel_rfl) (by kernel_rfl) (fun L0 => v_build rfl sp33 ti33 rfl ((fill_cons (cells' := [.int .i64 o.f_Tag_Id_Node, .int .u64 o.f_Tag_Id_Epoch, .int .u64 o.f_Tag_Id_Seq, .int .i64 o.f_Tag_Try, .int .i64 0, .slice none 0 0, .slice none 0 0, .slice none 0 0, .int .i64 0, .slice none 0 0]) rfl rfl rfl rfl (fill_cons (cells' := [.int .i64 o.f_Tag_Id_Node, .int .u64 o.f_Tag_Id_Epoch, .int .u64 o.f_Tag_Id_Seq, .int .i64 o.f_Tag_Try, .int .i64 c7.f_Kind, .slice c7.f_Reads.a (c7.f_Reads.xs).length c7.f_Reads.c, .slice c7.f_Writes.a (c7.f_Writes.xs).length c7.f_Writes.c, .slice c7.f_Ops.a (c7.f_Ops.xs).length c7.f_Ops.c, .int .i64 c7.f_To, .slice none 0 0]) rfl rfl rfl rfl (fill_cons (cells' := [.int .i64 o.f_Tag_Id_Node, .int .u64 o.f_Tag_Id_Epoch, .int .u64 o.f_Tag_Id_Seq, .int .i64 o.f_Tag_Try, .int .i64 c7.f_Kind, .slice c7.f_Reads.a (c7.f_Reads.xs).length c7.f_Reads.c, .slice c7.f_Writes.a (c7.f_Writes.xs).length c7.f_Writes.c, .slice c7.f_Ops.a (c7.f_Ops.xs).length c7.f_Ops.c, .int .i64 c7.f_To, .slice a11 (o.f_Marks.xs).length c11]) rfl rfl rfl rfl fill_nil))))) ?_
   refine h_one 10 rfl (by kernel_rfl) ?_
   refine l_conv (L' := row e_Mark.T e_Mark.sz a11 (o.f_Marks.xs).length c11 (flat e_Mark o.f_Marks.xs) :: txM c7 :: blk b2 (qzOCopyR2) :: blk b1 (qzOCopyR1 o) :: F) (fun w S => S.perm List.perm_append_comm) ?_
   refine l_f2 ?_
   refine o_storen rfl rfl ti33 rfl rfl rfl rfl ?_
   refine l_nil ?_
   refine q_conv (L' := (blk b1 (qzOCopyR1 o) :: F) ++ [blk b2 (qzOCopyR3 o c7 a11 c11), row e_Mark.T e_Mark.sz a11 (o.f_Marks.xs).length c11 (flat e_Mark o.f_Marks.xs), txM c7]) (fun w S => S.perm (List.perm_append_comm (l₁ := [blk b2 (qzOCopyR3 o c7 a11 c11), row e_Mark.T e_Mark.sz a11 (o.f_Marks.xs).length c11 (flat e_Mark o.f_Marks.xs), txM c7]) (l₂ := blk b1 (qzOCopyR1 o) :: F))) ?_
   refine h_next ?_
   refine h_done (by kernel_rfl) ?_
   refine q_conv (L' := blk b2 (qzOCopyR3 o c7 a11 c11) :: row e_Mark.T e_Mark.sz a11 (o.f_Marks.xs).length c11 (flat e_Mark o.f_Marks.xs) :: txM c7 :: blk b1 (qzOCopyR1 o) :: F) (fun w S => S.perm List.perm_append_comm) ?_
   exact q_mid (c7, a11, c11, a8) (by exact ⟨hs_c7, L_c7⟩) ⟨(by first | rfl | exact vint (by omega)), (by first | rfl | exact vint (by omega)), (by first | rfl | exact vint (by omega)), (by first | rfl | exact vint (by omega)), (by first | rfl | exact vint (by omega)), (by first | rfl | exact vint (by omega)), (by first | rfl | exact vint (by omega)), (by first | rfl | exact vint (by omega)), (by first | rfl | exact vint (by omega)), (by first | rfl | exact vint (by omega)), (by first | rfl | exact vint (by omega)), (by first | rfl | exact vint (by omega)), (by first | rfl | exact vint (by omega)), trivial⟩ (fun w S => S)
 · -- behind the cut
  rintro ⟨c7, a11, c11, a8⟩ ⟨hs_c7, L_c7⟩
  try dsimp only at *
  refine c_ret ?_
  refine f_retq (.inl rfl) (rs_1 rfl (rs_celln (vs := [.int .i64 o.f_Tag_Id_Node, .int .u64 o.f_Tag_Id_Epoch, .int .u64 o.f_Tag_Id_Seq, .int .i64 o.f_Tag_Try, .int .i64 c7.f_Kind, .slice c7.f_Reads.a (c7.f_Reads.xs).length c7.f_Reads.c, .slice c7.f_Writes.a (c7.f_Writes.xs).length c7.f_Writes.c, .slice c7.f_Ops.a (c7.f_Ops.xs).length c7.f_Ops.c, .int .i64 c7.f_To, .slice a11 (o.f_Marks.xs).length c11]) rfl Tryz.underlying33 rfl ti33 (rdn_lit 0 rfl rfl))) (fun w S => ?_)
  replace S := S.tail
  replace S := (S.perm p2).tail
  replace S := S.perm p1
  exact ⟨_, ⟨⟨o.f_Tag_Id_Node, o.f_Tag_Id_Epoch, o.f_Tag_Id_Seq, o.f_Tag_Try, c7.f_Kind, c7.f_Reads, c7.f_Writes, c7.f_Ops, c7.f_To, ⟨a11, o.f_Marks.xs, c11⟩⟩, ⟨rfl, hs_c7, rfl⟩, rfl, rfl⟩, (fun w S => Sat.unflat (Ls := [txM c7, vrow e_Mark ⟨a11, o.f_Marks.xs, c11⟩]) S) w S⟩
end
section
set_option linter.unusedVariables false
set_option linter.unusedSimpArgs false
set_option maxRecDepth 10000
open Go.RowKit Classical
theorem owf_mk {W : World} {o : Order} (h1 : (Lit.int .u64 o.f_Tag_Id_Epoch).wf = true) (h2 : (Lit.int .u64 o.f_Tag_Id_Seq).wf = true) (h3 : ∀ x ∈ o.f_Txn_Ops.xs, G_Op W x) (h4 : ∀ x ∈ o.f_Marks.xs, G_Mark W x) : OWf o where
  ep := by obtain ⟨m, e, _⟩ := wf_u64 h1; omega
  sq := by obtain ⟨m, e, _⟩ := wf_u64 h2; omega
  mc := fun m hm => by obtain ⟨m, e, _⟩ := wf_u64 (h4 m hm).2.2; omega
  op := fun x hx => by have := wf_i64 (h3 x hx).2.2.2; omega
theorem owfO {W : World} {x : Order} (g : G_Order W x) : OWf x := owf_mk g.2.1 g.2.2.1 g.2.2.2.2.2.2.2.1.all g.2.2.2.2.2.2.2.2.2.all
theorem OWf.same {a b : Order} (h : SameO a b) (w : OWf b) : OWf a := by
  obtain ⟨h1, ⟨_, _, _, _, h4, h5⟩, h3⟩ := h
  have e := Tag.mk.inj h1
  refine ⟨by have := w.ep; rw [← e.2.1] at this; exact this, by have := w.sq; rw [← e.2.2.1] at this; exact this, fun m hm => w.mc m (by rw [← h3]; exact hm), fun x hx => ?_⟩
  obtain ⟨j, hj, rfl⟩ := List.mem_iff_getElem.1 hx
  have h4' : a.f_Txn_Ops.xs.length = b.f_Txn_Ops.xs.length := h4
  have hj' : j < b.f_Txn_Ops.xs.length := by omega
  have h6 := h5 j _ _ (by first | exact hj | exact hj') (List.getElem?_eq_getElem hj) (List.getElem?_eq_getElem hj')
  have h7 := w.op _ (List.getElem_mem hj')
  have h8 : (a.f_Txn_Ops.xs[j]).f_N = (b.f_Txn_Ops.xs[j]).f_N := h6.2.2.1
  rw [h8]; exact h7
theorem rd_uniq {bs : List UInt8} {q p : Order} {n m : Int} (h : RdResO bs q n) (k : RdResO bs p m) : n = m ∧ SameO q p := by
  rcases h with ⟨h1, g⟩ | ⟨h1, h2, h3⟩
  · rcases k with ⟨k1, f⟩ | ⟨_, _, k3⟩
    · exact ⟨h1.trans k1.symm, ordB_inj g.ok f.ok g.wf f.wf (g.eq.symm.trans f.eq)⟩
    · exact absurd g (k3 q)
  · rcases k with ⟨_, f⟩ | ⟨k1, k2, _⟩
    · exact absurd f (h3 p)
    · exact ⟨h1.trans k1.symm, by rw [h2, k2]; exact sameO_refl _⟩
theorem rd_of {o q : Order} {bs : List UInt8} {n : Int} (hb : bs = ordB o) (ok : OrdOk o 3) (w : OWf o) (h : RdResO bs q n) : n = 0 ∧ SameO q o := by
  rcases h with ⟨h1, g⟩ | ⟨_, _, h3⟩
  · exact ⟨h1, ordB_inj g.ok ok g.wf w (g.eq.symm.trans hb)⟩
  · exact absurd ⟨ok, w, hb⟩ (h3 o)
theorem wrO_same {a b : Order} (h : SameO a b) : wrO a = wrO b := by
  unfold wrO
  by_cases k : OrdOk a 3
  · rw [if_pos k, if_pos ((ordOk_same h).1 k), ordB_same h]
  · rw [if_neg k, if_neg (fun k2 => k ((ordOk_same h).2 k2))]
set_option maxHeartbeats 4000000 in
theorem writesL_ {W : World} {F : List Res} {ms : List UInt8} {am : Option Addr} {cm : Nat} {o : Order} (T_o : OrdR W F o) (w_o : OWf o) (hs : SlR W e8 am ms) (hml : ms.length ≤ 9223372036854775807) (hcm : ms.length ≤ cm) : CS Tryz.prog 3 #[.agg #[.int .i64 o.f_Tag_Id_Node, .int .u64 o.f_Tag_Id_Epoch, .int .u64 o.f_Tag_Id_Seq, .int .i64 o.f_Tag_Try, .int .i64 o.f_Txn_Kind, .slice o.f_Txn_Reads.a (o.f_Txn_Reads.xs).length o.f_Txn_Reads.c, .slice o.f_Txn_Writes.a (o.f_Txn_Writes.xs).length o.f_Txn_Writes.c, .slice o.f_Txn_Ops.a (o.f_Txn_Ops.xs).length o.f_Txn_Ops.c, .int .i64 o.f_Txn_To, .slice o.f_Marks.a (o.f_Marks.xs).length o.f_Marks.c], .slice am ms.length cm] W (F) (fun r L' => r = .bool true ∧ F = L') := by
 refine f_door (l0 := [(0, .agg #[.int .i64 o.f_Tag_Id_Node, .int .u64 o.f_Tag_Id_Epoch, .int .u64 o.f_Tag_Id_Seq, .int .i64 o.f_Tag_Try, .int .i64 o.f_Txn_Kind, .slice o.f_Txn_Reads.a (o.f_Txn_Reads.xs).length o.f_Txn_Reads.c, .slice o.f_Txn_Writes.a (o.f_Txn_Writes.xs).length o.f_Txn_Writes.c, .slice o.f_Txn_Ops.a (o.f_Txn_Ops.xs).length o.f_Txn_Ops.c, .int .i64 o.f_Txn_To, .slice o.f_Marks.a (o.f_Marks.xs).length o.f_Marks.c]), (1, .slice am ms.length cm)]) Tryz.func3 Tryz.ntmps3 rfl rfl rfl ?_
 refine c_seq ?_
 refine c_region ?_
 refine o_box rfl rfl fun b2 => ?_
 refine o_assign rfl rfl ?_
 refine l_nil ?_
 refine q_then ?_
 refine c_seq ?_
 refine c_seq ?_
 refine c_region ?_
 refine o_call rfl cal5 rfl (speaks_) ?_
 rintro _ _ ⟨rfl, rfl⟩
 refine o_not rfl rfl ?_
 refine l_nil ?_
 refine q_then ?_
 refine c_false rfl ?_
 refine c_skip ?_
 refine q_then ?_
 refine c_seq ?_
 refine c_seq ?_
 refine c_region ?_
 refine o_loadn (vs := [_, _, _, _, _, _, _, _, _, _]) rfl rfl Tryz.underlying33 rfl ti33 (rdn_lit 0 rfl rfl) ?_
 refine o_call rfl cal6 rfl (rgreat_ (o := o) (OrdR.c T_o)) ?_
 rintro _ _ ⟨g20, hg20, rfl, rfl⟩
 refine o_move rfl rfl ?_
 refine l_split (t := 21) rfl (fun h1 => ?_) (fun h1 => ?_)
 · -- h1T
  have h1b := h1
  try simp only [decide_eq_true_eq, decide_eq_false_iff_not, Bool.not_eq_eq_eq_not, Bool.not_true, Bool.not_false, Bool.not_eq_true', Bool.not_eq_false', Int.not_lt, Int.not_le, Bool.or_eq_true, Bool.and_eq_true] at h1
  refine o_no rfl rfl rfl rfl ?_
  refine o_no rfl rfl rfl rfl ?_
  refine o_no rfl rfl rfl rfl ?_
  refine o_pick_true rfl rfl rfl ?_
  refine l_nil ?_
  refine q_then ?_
  refine c_true rfl ?_
  refine c_seq ?_
  refine c_region ?_
  refine o_assign rfl rfl ?_
  refine l_nil ?_
  refine q_then ?_
  refine c_ret ?_
  refine q_pass_ret ?_
  refine q_conv (fun w S => S.tail) ?_
  exact f_ret (r_one rfl rfl) (⟨rfl, rfl⟩) (fun w S => S)
 · -- h1F
  have h1b := h1
  try simp only [decide_eq_true_eq, decide_eq_false_iff_not, Bool.not_eq_eq_eq_not, Bool.not_true, Bool.not_false, Bool.not_eq_true', Bool.not_eq_false', Int.not_lt, Int.not_le, Bool.or_eq_true, Bool.and_eq_true] at h1
  refine o_yes rfl rfl rfl ?_
  refine o_move rfl rfl ?_
  refine o_yes rfl rfl rfl ?_
  refine o_len rfl rfl Tryz.underlying34 ?_
  refine o_yes rfl rfl rfl ?_
  refine o_bin rfl rfl rfl b_gtr ?_
  refine o_pick_false rfl rfl rfl ?_
  refine l_nil ?_
  refine q_then ?_
  refine c_cond rfl (fun h2 => ?_) (fun h2 => ?_)
  · -- h2T
   have h2b := h2
   try simp only [decide_eq_true_eq] at h2
   refine c_seq ?_
   refine c_region ?_
   refine o_assign rfl rfl ?_
   refine l_nil ?_
   refine q_then ?_
   refine c_ret ?_
   refine q_pass_ret ?_
   refine q_conv (fun w S => S.tail) ?_
   exact f_ret (r_one rfl rfl) (⟨rfl, rfl⟩) (fun w S => S)
  · -- h2F
   have h2b := h2
   try simp only [decide_eq_false_iff_not, Int.not_lt, Int.not_le] at h2
   refine c_skip ?_
   refine q_then ?_
   refine c_seq ?_
   refine c_region ?_
   refine o_loadn (vs := [_, _, _, _, _, _, _, _, _, _]) rfl rfl Tryz.underlying33 rfl ti33 (rdn_lit 0 rfl rfl) ?_
   refine o_call rfl cal7 rfl (rocopy_ (o := o) (OrdR.c T_o) (hg20 (by assumption))) ?_
   rintro _ _ ⟨c27, hs_c27, rfl, rfl⟩
   have L_c27 : OrdLen c27 := OrdLen.same T_o.len hs_c27
   have w_c27 : OWf c27 := OWf.same hs_c27 w_o
   refine o_lit e8_ok rfl Tryz.underlying34 rfl rfl rfl (lit_ok rfl) ([] : List UInt8) rfl rfl fun a28 => ?_
   refine o_move rfl rfl ?_
   refine o_append e8_ok rfl rfl rfl Tryz.underlying34 (rds_old hs) (by show (_ + _) * _ ≤ _; (try simp only [List.length_append, List.length_nil]); omega) (by (try simp only [List.length_append, List.length_nil]); omega) fun a30 c30 => ?_
   refine o_alloc rfl ti33 fun b5 => ?_
   refine o_storen rfl rfl ti33 rfl rfl rfl rfl ?_
   refine o_assign rfl rfl ?_
   refine l_nil ?_
   refine q_then ?_
   refine c_seq ?_
   refine c_region ?_
   refine o_loadn (vs := [_, _, _, _, _, _, _, _, _, _]) rfl rfl Tryz.underlying33 rfl ti33 (rdn_lit 0 rfl rfl) ?_
   refine o_call rfl cal8 rfl (oWrite_ (o := c27) (ordM_R L_c27 2 rfl) (OSmall.same (hg20 (by assumption)) hs_c27) w_c27) ?_
   rintro _ _ ⟨out33, a33, c33, hout33, rfl, rfl⟩
   refine o_move rfl rfl ?_
   refine o_extract rfl rfl rfl ?_
   refine o_extract rfl rfl rfl ?_
   refine o_assign rfl rfl ?_
   refine o_assign rfl rfl ?_
   refine l_nil ?_
   refine q_then ?_
   refine c_seq ?_
   refine c_region ?_
   refine o_loadn (vs := [_, _, _, _, _, _, _, _, _, _]) rfl rfl Tryz.underlying33 rfl ti33 (rdn_lit 4 rfl rfl) ?_
   refine o_call rfl cal9 rfl (rWrite_ (o := o) (OrdR.c (OrdR.c (OrdR.c (OrdR.c (OrdR.c T_o))))) (hg20 (by assumption)) w_o) ?_
   rintro _ _ ⟨out38, a38, c38, hout38, rfl, rfl⟩
   refine o_move rfl rfl ?_
   refine o_extract rfl rfl rfl ?_
   refine o_extract rfl rfl rfl ?_
   refine o_assign rfl rfl ?_
   refine o_assign rfl rfl ?_
   refine l_nil ?_
   refine q_then ?_
   refine c_seq ?_
   refine c_region ?_
   refine o_move rfl rfl ?_
   refine o_call rfl cal10 rfl (oRead_ (rds_own e8_ok 3 rfl) (by (try simp only [List.length_append, List.length_nil]); omega)) ?_
   rintro _ _ ⟨q43, n43, hrd43, L_q43, rfl, rfl⟩
   refine o_move rfl rfl ?_
   refine o_extract rfl rfl rfl ?_
   refine o_extract rfl rfl rfl ?_
   refine o_alloc rfl ti33 fun b11 => ?_
   refine o_storen rfl rfl ti33 rfl rfl rfl rfl ?_
   refine o_assign rfl rfl ?_
   refine l_nil ?_
   refine q_then ?_
   refine c_seq ?_
   refine c_region ?_
   refine o_move rfl rfl ?_
   refine o_call rfl cal11 rfl (rRead_ hs (by omega) hcm) ?_
   rintro _ _ ⟨q48, n48, hrd48, L_q48, rfl, rfl⟩
   refine o_move rfl rfl ?_
   refine o_extract rfl rfl rfl ?_
   refine o_extract rfl rfl rfl ?_
   refine o_alloc rfl ti33 fun b13 => ?_
   refine o_storen rfl rfl ti33 rfl rfl rfl rfl ?_
   refine o_assign rfl rfl ?_
   refine l_nil ?_
   refine q_then ?_
   refine c_seq ?_
   refine c_seq ?_
   have hu := rd_uniq (show RdResO ms q43 n43 from hrd43) hrd48
   refine c_region ?_
   refine o_move rfl rfl ?_
   refine o_move rfl rfl ?_
   refine o_bin rfl rfl rfl b_neq ?_
   refine l_eq (t := 53) (v' := .bool false) rfl (show _ = Value.bool false from by rw [chkO_same hs_c27]; simp) ?_
   refine o_move rfl rfl ?_
   refine o_yes rfl rfl rfl ?_
   refine o_move rfl rfl ?_
   refine o_yes rfl rfl rfl ?_
   refine o_bytesStr (e := e8) rfl rfl rfl Tryz.underlying34 Tryz.underlying5 Tryz.underlying9 (rds_own e8_ok 5 rfl) ?_
   refine o_yes rfl rfl rfl ?_
   refine o_move rfl rfl ?_
   refine o_yes rfl rfl rfl ?_
   refine o_bytesStr (e := e8) rfl rfl rfl Tryz.underlying34 Tryz.underlying5 Tryz.underlying9 (rds_own e8_ok 4 rfl) ?_
   refine o_yes rfl rfl rfl ?_
   refine o_bin rfl rfl rfl b_sneq ?_
   refine l_eq (t := 59) (v' := .bool false) rfl (show _ = Value.bool false from by rw [hout33, hout38, wrO_same hs_c27]; simp) ?_
   refine o_pick_false rfl rfl rfl ?_
   refine o_move rfl rfl ?_
   refine o_yes rfl rfl rfl ?_
   refine o_move rfl rfl ?_
   refine o_yes rfl rfl rfl ?_
   refine o_move rfl rfl ?_
   refine o_yes rfl rfl rfl ?_
   refine o_bin rfl rfl rfl b_neq ?_
   refine l_eq (t := 64) (v' := .bool false) rfl (show _ = Value.bool false from by rw [hu.1]; simp) ?_
   refine o_pick_false rfl rfl rfl ?_
   refine o_move rfl rfl ?_
   refine o_yes rfl rfl rfl ?_
   refine o_loadn (vs := [_, _, _, _, _, _, _, _, _, _]) rfl rfl Tryz.underlying33 rfl ti33 (rdn_lit 2 rfl rfl) ?_
   refine o_yes rfl rfl rfl ?_
   refine o_loadn (vs := [_, _, _, _, _, _, _, _, _, _]) rfl rfl Tryz.underlying33 rfl ti33 (rdn_lit 0 rfl rfl) ?_
   refine o_yes rfl rfl rfl ?_
   refine o_call rfl cal12 rfl (same9_ (a := q43) (b := q48) (ordM_R L_q43 3 rfl) (ordM_R L_q48 1 rfl)) ?_
   rintro _ _ ⟨rfl, rfl⟩
   refine l_eq (t := 69) (v' := .bool true) rfl (show _ = Value.bool true from by rw [decide_eq_true hu.2]) ?_
   refine o_yes rfl rfl rfl ?_
   refine o_not rfl rfl ?_
   refine o_pick_false rfl rfl rfl ?_
   refine o_move rfl rfl ?_
   refine o_yes rfl rfl rfl ?_
   refine o_loadn (vs := [_, _, _, _, _, _, _, _, _, _]) rfl rfl Tryz.underlying33 rfl ti33 (rdn_lit 6 rfl rfl) ?_
   refine o_yes rfl rfl rfl ?_
   refine o_loadn (vs := [_, _, _, _, _, _, _, _, _, _]) rfl rfl Tryz.underlying33 rfl ti33 (rdn_lit 9 rfl rfl) ?_
   refine o_yes rfl rfl rfl ?_
   refine o_call rfl cal12 rfl (same9_ (a := c27) (b := o) (ordM_R L_c27 8 rfl) (OrdR.c (OrdR.c (OrdR.c (OrdR.c (OrdR.c (OrdR.c (OrdR.c (OrdR.c (OrdR.c (OrdR.c T_o))))))))))) ?_
   rintro _ _ ⟨rfl, rfl⟩
   refine l_eq (t := 75) (v' := .bool true) rfl (show _ = Value.bool true from by rw [decide_eq_true hs_c27]) ?_
   refine o_yes rfl rfl rfl ?_
   refine o_not rfl rfl ?_
   refine o_pick_false rfl rfl rfl ?_
   refine o_move rfl rfl ?_
   refine o_yes rfl rfl rfl ?_
   refine o_move rfl rfl ?_
   refine o_yes rfl rfl rfl ?_
   refine o_bytesStr (e := e8) rfl rfl rfl Tryz.underlying34 Tryz.underlying5 Tryz.underlying9 (rds_own e8_ok 7 rfl) ?_
   refine o_yes rfl rfl rfl ?_
   refine o_move rfl rfl ?_
   refine o_yes rfl rfl rfl ?_
   refine o_bytesStr (e := e8) rfl rfl rfl Tryz.underlying34 Tryz.underlying5 Tryz.underlying9 (rds_old hs) ?_
   refine o_yes rfl rfl rfl ?_
   refine o_bin rfl rfl rfl b_sneq ?_
   refine l_eq (t := 83) (v' := .bool false) rfl (show _ = Value.bool false from by simp) ?_
   refine o_pick_false rfl rfl rfl ?_
   refine l_nil ?_
   refine q_then ?_
   refine c_false rfl ?_
   refine c_skip ?_
   refine q_then ?_
   refine c_seq ?_
   refine c_seq ?_
   refine c_region ?_
   refine o_move rfl rfl ?_
   refine o_bin rfl rfl rfl b_neq ?_
   refine l_nil ?_
   refine q_then ?_
   refine c_cond rfl (fun h3 => ?_) (fun h3 => ?_)
   · -- h3T
    have h3b := h3
    try simp only [Bool.not_eq_true', decide_eq_false_iff_not, Int.not_lt, Int.not_le] at h3
    refine c_seq ?_
    refine c_region ?_
    refine o_assign rfl rfl ?_
    refine l_nil ?_
    refine q_then ?_
    refine c_ret ?_
    refine q_pass_ret ?_
    refine q_conv (fun w S => S.tail) ?_
    refine q_conv (fun w S => S.tail) ?_
    refine q_conv (fun w S => S.tail) ?_
    refine q_conv (fun w S => S.tail) ?_
    refine q_conv (fun w S => S.tail) ?_
    refine q_conv (fun w S => S.tail) ?_
    refine q_conv (fun w S => S.tail) ?_
    refine q_conv (fun w S => S.tail) ?_
    refine q_conv (fun w S => S.tail) ?_
    refine q_conv (fun w S => S.tail) ?_
    exact f_ret (r_one rfl rfl) (⟨rfl, rfl⟩) (fun w S => S)
   · -- h3F
    have h3b := h3
    try simp only [Bool.not_eq_false', decide_eq_true_eq] at h3
    refine c_skip ?_
    refine q_then ?_
    refine c_seq ?_
    have hok : OrdOk c27 3 := chkO_0.1 (by first | assumption | simp_all)
    have hbl := ordB_len hok w_c27 (OSmall.same (hg20 (by assumption)) hs_c27)
    have ho33 : out33 = ordB c27 := by rw [hout33]; exact if_pos hok
    have hl33 : out33.length ≤ 50000 := by rw [ho33]; exact hbl
    refine c_region ?_
    refine o_move rfl rfl ?_
    refine o_call rfl cal10 rfl (oRead_ (rds_own e8_ok 5 rfl) (by (try simp only [List.length_append, List.length_nil]); omega)) ?_
    rintro _ _ ⟨q89, n89, hrd89, L_q89, rfl, rfl⟩
    refine o_move rfl rfl ?_
    refine o_extract rfl rfl rfl ?_
    refine o_extract rfl rfl rfl ?_
    refine o_alloc rfl ti33 fun b15 => ?_
    refine o_storen rfl rfl ti33 rfl rfl rfl rfl ?_
    refine o_assign rfl rfl ?_
    refine l_nil ?_
    refine q_then ?_
    refine c_seq ?_
    have hb := rd_of ho33 hok w_c27 hrd89
    refine c_region ?_
    refine o_move rfl rfl ?_
    refine o_bin rfl rfl rfl b_eql ?_
    refine l_eq (t := 93) (v' := .bool true) rfl (show _ = Value.bool true from by rw [hb.1]; rfl) ?_
    refine o_move rfl rfl ?_
    refine o_yes rfl rfl rfl ?_
    refine o_loadn (vs := [_, _, _, _, _, _, _, _, _, _]) rfl rfl Tryz.underlying33 rfl ti33 (rdn_lit 0 rfl rfl) ?_
    refine o_yes rfl rfl rfl ?_
    refine o_loadn (vs := [_, _, _, _, _, _, _, _, _, _]) rfl rfl Tryz.underlying33 rfl ti33 (rdn_lit 11 rfl rfl) ?_
    refine o_yes rfl rfl rfl ?_
    refine o_call rfl cal12 rfl (same9_ (a := q89) (b := o) (ordM_R L_q89 1 rfl) (OrdR.c (OrdR.c (OrdR.c (OrdR.c (OrdR.c (OrdR.c (OrdR.c (OrdR.c (OrdR.c (OrdR.c (OrdR.c (OrdR.c T_o))))))))))))) ?_
    rintro _ _ ⟨rfl, rfl⟩
    refine l_eq (t := 97) (v' := .bool true) rfl (show _ = Value.bool true from by rw [decide_eq_true (sameO_trans hb.2 hs_c27)]) ?_
    refine o_pick_true rfl rfl rfl ?_
    refine o_assign rfl rfl ?_
    refine l_nil ?_
    refine q_then ?_
    refine c_ret ?_
    refine q_conv (fun w S => S.tail) ?_
    refine q_conv (fun w S => S.tail) ?_
    refine q_conv (fun w S => S.tail) ?_
    refine q_conv (fun w S => S.tail) ?_
    refine q_conv (fun w S => S.tail) ?_
    refine q_conv (fun w S => S.tail) ?_
    refine q_conv (fun w S => S.tail) ?_
    refine q_conv (fun w S => S.tail) ?_
    refine q_conv (fun w S => S.tail) ?_
    refine q_conv (fun w S => S.tail) ?_
    refine q_conv (fun w S => S.tail) ?_
    refine q_conv (fun w S => S.tail) ?_
    exact f_ret (r_one rfl rfl) (⟨rfl, rfl⟩) (fun w S => S)
end
end Go.Proofs.YtlblipkcbmcfkaaGreat
