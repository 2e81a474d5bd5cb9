/- Printed by eng2.py out of 12/spec2.py. -/
import Derived.Test.YtakjmdeckngnlaaSpeaks
import Derived.Test.YtakjmdeckngnlaaLatv
set_option linter.unusedVariables false
set_option linter.unusedSimpArgs false
set_option maxRecDepth 10000
namespace Go.Proofs.Ytakjmdeckngnlaa
open Go.RowKit Classical
set_option maxHeartbeats 2000000 in
theorem later_ {W : World} {F : List Res} {vo tk0 tl0 : Int} : CS Try.prog 7 #[.int .i64 vo, .int .u64 tk0, .int .u64 tl0] W (F) (fun r L' => r = .bool true ∧ F = L') := by
 refine f_door (l0 := [(0, .int .i64 vo), (1, .int .u64 tk0), (2, .int .u64 tl0)]) Try.func7 Try.ntmps7 rfl rfl rfl ?_
 refine c_seq ?_
 refine c_region ?_
 refine o_assign rfl rfl ?_
 refine l_nil ?_
 refine q_then ?_
 refine c_seq ?_
 refine c_seq ?_
 refine c_region ?_
 refine o_call rfl cal8 rfl (speaks_) ?_
 rintro _ _ ⟨rfl, rfl⟩
 refine o_not rfl rfl ?_
 refine l_nil ?_
 refine q_then ?_
 refine c_false rfl ?_
 refine c_skip ?_
 refine q_then ?_
 refine c_seq ?_
 refine c_region ?_
 refine o_move rfl rfl ?_
 refine o_bin rfl rfl rfl (b_and rfl) ?_
 obtain ⟨q31, hq31, eq31⟩ := band64 vo 7 (by omega)
 refine l_eq (t := 31) (v' := .int .i64 (q31 : Int)) rfl (by first | exact congrArg _ eq31) ?_
 refine o_bin rfl rfl rfl (b_add (wrap_i64 (by omega) (by omega))) ?_
 obtain ⟨n, hn1, hn8, en⟩ : ∃ n : Nat, 1 ≤ n ∧ n ≤ 8 ∧ 1 + (q31 : Int) = (n : Int) := ⟨1 + q31, by omega, by omega, by omega⟩
 have hn9 : n ≤ 9 := by omega
 refine l_eq (t := 32) (v' := .int .i64 (n : Int)) rfl (by rw [en]) ?_
 refine o_assign rfl rfl ?_
 refine l_nil ?_
 refine q_then ?_
 refine c_seq ?_
 refine c_region ?_
 refine o_move rfl rfl ?_
 refine o_call rfl cal10 rfl (lnewOkS (by omega)) ?_
 rintro _ _ ⟨kf, rfl, rfl⟩
 refine l_conv (L' := LdR kf (F1 n [] [] []) :: _) (fun w S => by rw [show ldNew ByteArray 1 (n : Int) 0 = (F1 n [] [] []) from rfl] at S; exact S) ?_
 refine o_move rfl rfl ?_
 refine o_extract rfl rfl rfl ?_
 refine o_extract rfl rfl rfl ?_
 refine o_assign rfl rfl ?_
 refine o_assign rfl rfl ?_
 refine l_nil ?_
 refine q_then ?_
 refine c_seq ?_
 refine c_region ?_
 refine o_move rfl rfl ?_
 refine o_call rfl cal10 rfl (lnewOkS (by omega)) ?_
 rintro _ _ ⟨kg, rfl, rfl⟩
 refine l_conv (L' := LdR kg (S2 n [] []) :: _) (fun w S => by rw [show ldNew ByteArray 2 (n : Int) 0 = (S2 n [] []) from rfl] at S; exact S) ?_
 refine o_move rfl rfl ?_
 refine o_extract rfl rfl rfl ?_
 refine o_extract rfl rfl rfl ?_
 refine o_assign rfl rfl ?_
 refine o_assign rfl rfl ?_
 refine l_nil ?_
 refine q_then ?_
 refine c_seq ?_
 refine c_seq ?_
 refine c_region ?_
 refine o_move rfl rfl ?_
 refine o_bin rfl rfl rfl (b_peq Try.underlying25 _) ?_
 refine o_move rfl rfl ?_
 refine o_yes rfl rfl rfl ?_
 refine o_move rfl rfl ?_
 refine o_yes rfl rfl rfl ?_
 refine o_bin rfl rfl rfl (b_peq Try.underlying25 _) ?_
 refine o_pick_false rfl rfl rfl ?_
 refine l_nil ?_
 refine q_then ?_
 refine c_false rfl ?_
 refine c_skip ?_
 refine q_then ?_
 refine c_seq ?_
 refine c_region ?_
 refine o_lit eVPS_ok rfl Try.underlying74 rfl rfl rfl (lit_ok rfl) ([] : List Nat) rfl rfl fun a49 => ?_
 refine o_assign rfl rfl ?_
 refine l_nil ?_
 refine q_then ?_
 refine c_seq ?_
 refine c_seq ?_
 refine c_conv (L' := vsR ([] : List (Nat × VSA)) :: _) (fun w S => Sat.emp_ S) ?_
 refine c_conv (fun w S => S.perm p3) ?_
 refine c_conv (fun w S => S.perm p3) ?_
 refine c_conv (fun w S => S.perm p2) ?_
 refine c_conv (fun w S => S.perm p3) ?_
 refine c_conv (L' := row eVPS.T eVPS.sz a49 ((([] : List (Nat × VSA)).map Prod.fst)).length 0 (flat eVPS (([] : List (Nat × VSA)).map Prod.fst)) :: _) (fun w S => S) ?_
 refine c_region ?_
 refine o_assign rfl rfl ?_
 refine l_nil ?_
 refine q_then ?_
 refine c_block ?_
 refine c_loop (α := Nat × (List (Nat × VSA)) × (List (Int × Int)) × (Option Addr) × Nat) (fun z => [(1, .int .u64 tk0), (2, .int .u64 tl0), (7, .int .i64 (n : Int)), (8, .pointer (some ⟨kf, 0, none⟩)), (10, .pointer (some ⟨kg, 0, none⟩)), (12, .slice z.2.2.2.1 ((z.2.1.map Prod.fst)).length z.2.2.2.2), (13, .int .i64 (z.1 : Int))]) (fun z => row eVPS.T eVPS.sz z.2.2.2.1 ((z.2.1.map Prod.fst)).length z.2.2.2.2 (flat eVPS (z.2.1.map Prod.fst)) :: vsR z.2.1 :: LdR kg (S2 n [] []) :: LdR kf (F1 n z.2.2.1 [] []) :: F) (fun z => z.1 ≤ n ∧ V1 z.2.1 z.1 ∧ FirstOk n z.1 z.2.2.1) (fun z => n - z.1) (0, [], [], a49, 0) (by exact ⟨by omega, v1_0, first_0⟩) ⟨(by first | rfl | exact vint (by omega)), (by first | rfl | exact vint (by omega)), (by first | rfl | exact vint (by omega)), (by first | rfl | exact vint (by omega)), (by first | rfl | exact vint (by omega)), (by first | rfl | exact vint (by omega)), (by first | rfl | exact vint (by omega)), trivial⟩ (fun w S => S) ?_
 rintro ⟨i, gs, D, ga, gc⟩ ⟨hi, hv1, hf⟩
 try dsimp only at *
 refine c_seq ?_
 refine c_seq ?_
 refine c_region ?_
 refine o_move rfl rfl ?_
 refine o_move rfl rfl ?_
 refine o_bin rfl rfl rfl b_lss ?_
 refine l_nil ?_
 refine q_then ?_
 refine c_cond rfl (fun h1 => ?_) (fun h1 => ?_)
 · -- h1T
  have h1b := h1
  try simp only [decide_eq_true_eq] at h1
  refine c_skip ?_
  refine q_then ?_
  refine c_seq ?_
  refine c_block ?_
  refine c_seq ?_
  have hgl := hv1.len
  have hml : (gs.map Prod.fst).length = gs.length := List.length_map ..
  refine c_region ?_
  refine o_call rfl cal34 rfl (vnewA) ?_
  rintro _ _ ⟨k55, rfl, rfl⟩
  refine o_assign rfl rfl ?_
  refine l_nil ?_
  refine q_then ?_
  refine c_seq ?_
  refine c_seq ?_
  refine c_region ?_
  refine o_move rfl rfl ?_
  refine o_bin rfl rfl rfl (b_peq Try.underlying75 _) ?_
  refine l_nil ?_
  refine q_then ?_
  refine c_false rfl ?_
  refine c_skip ?_
  refine q_then ?_
  refine c_seq ?_
  refine c_region ?_
  refine o_move rfl rfl ?_
  refine o_move rfl rfl ?_
  refine o_lit eVPS_ok rfl Try.underlying74 rfl rfl rfl (lit_ok rfl) [k55] rfl rfl fun a60 => ?_
  refine l_f2 ?_
  refine o_append eVPS_ok rfl rfl rfl Try.underlying74 (rds_own eVPS_ok 1 rfl) (by show (_ + _) * 8 ≤ _; (try simp only [List.length_append, List.length_cons, List.length_nil]); omega) (by (try simp only [List.length_append, List.length_cons, List.length_nil]); omega) fun a61 c61 => ?_
  refine l_f1 ?_
  refine l_drop ?_
  refine o_assign rfl rfl ?_
  refine l_nil ?_
  refine q_then ?_
  refine c_seq ?_
  refine c_region ?_
  refine o_move rfl rfl ?_
  refine l_f1 ?_
  refine o_call rfl cal35 rfl (vpromA (b := 1) (fr := 0)) ?_
  rintro _ _ ⟨a64, c64, rfl, rfl⟩
  refine l_f1 ?_
  refine l_conv (L' := VtA k55 (stL false) :: _) (fun w S => by rw [show (promSA (⟨0, []⟩ : VSA) 1) = (stL false) from prom_new] at S; exact S) ?_
  refine o_move rfl rfl ?_
  refine o_extract rfl rfl rfl ?_
  refine o_extract rfl rfl rfl ?_
  refine o_assign rfl rfl ?_
  refine o_assign rfl rfl ?_
  refine l_nil ?_
  refine q_then ?_
  refine c_region ?_
  refine o_move rfl rfl ?_
  refine o_move rfl rfl ?_
  refine o_move rfl rfl ?_
  refine l_f5 ?_
  refine o_call rfl cal13 rfl (promisedS (vs := (promLA (⟨0, []⟩ : VSA) 1 0)) (a := a64) (c := c64) (rds_own eVS_ok 1 rfl) (by first | decide | omega | (simp; omega))) ?_
  rintro _ _ ⟨rfl, rfl⟩
  obtain ⟨D2, hD2, hf2⟩ := first_step (D := D) hn9 (by omega) hf
  refine l_conv (L' := LdR kf (F1 n D2 [] []) :: _) (fun w S => by rw [show ((F1 n D [] []).promised z0S (i : Int) (promLA (⟨0, []⟩ : VSA) 1 0)) = (F1 n D2 [] []) from by rw [pl_new]; exact hD2] at S; exact S) ?_
  refine l_nil ?_
  refine q_block ?_
  refine q_then ?_
  refine c_conv (fun w S => S.perm p5) ?_
  refine c_conv (fun w S => S.perm p3) ?_
  refine c_conv (fun w S => S.perm p2) ?_
  refine c_conv (fun w S => S.perm p4) ?_
  refine c_conv (fun w S => S.perm p5) ?_
  refine c_conv (fun w S => S.perm p5) ?_
  refine c_conv (L' := vsR (gs ++ [(k55, (stL false))]) :: row eVPS.T eVPS.sz a61 (((gs ++ [(k55, (stL false))]).map Prod.fst)).length c61 (flat eVPS ((gs ++ [(k55, (stL false))]).map Prod.fst)) :: _) (fun w S => by have h9 := Sat.v_app S; rw [show (gs.map Prod.fst) ++ [k55] = ((gs ++ [(k55, (stL false))]).map Prod.fst) from by rw [List.map_append]; rfl] at h9; exact h9) ?_
  refine c_region ?_
  refine o_move rfl rfl ?_
  refine o_bin rfl rfl rfl (b_add (wrap_i64 (by omega) (by omega))) ?_
  refine o_assign rfl rfl ?_
  refine l_nil ?_
  refine q_conv (fun w S => (S.perm p3).tail) ?_
  refine q_conv (fun w S => S.perm p2) ?_
  refine q_conv (fun w S => S.perm p3) ?_
  refine q_conv (fun w S => S.perm p2) ?_
  refine q_conv (fun w S => S.perm p3) ?_
  exact q_round (i + 1, (gs ++ [(k55, (stL false))]), D2, a61, c61) (by exact ⟨by omega, hv1.app, hf2⟩) (by (try dsimp only); omega) ⟨(by first | rfl | exact vint (by omega)), (by first | rfl | exact vint (by omega)), (by first | rfl | exact vint (by omega)), (by first | rfl | exact vint (by omega)), (by first | rfl | exact vint (by omega)), (by rw [List.map_append]; rfl), (by first | rfl | exact vint (by omega)), trivial⟩ (fun w S => S)
 · -- h1F
  have h1b := h1
  try simp only [decide_eq_false_iff_not, Int.not_lt, Int.not_le] at h1
  refine c_exit ?_
  refine q_pass_exit ?_
  refine q_pass_exit ?_
  refine q_hit ?_
  refine q_then ?_
  refine c_seq ?_
  have hin : i = n := by omega
  have hfn : FirstOk n n D := by rw [hin] at hf; exact hf
  have hDl : n / 2 < D.length := by have := hfn.len; omega
  have hv1n : V1 gs n := by rw [hin] at hv1; exact hv1
  have hgl := hv1n.len
  have hml : (gs.map Prod.fst).length = gs.length := List.length_map ..
  refine c_region ?_
  refine o_move rfl rfl ?_
  refine l_f3 ?_
  refine o_call rfl cal15 rfl (offerS) ?_
  rintro _ _ ⟨rfl, rfl⟩
  refine l_conv (L' := LdR kf (stF n D [] false) :: _) (fun w S => by rw [show ((F1 n D [] []).offer ByteArray.empty ⟨#[99, 104, 111, 115, 101, 110]⟩).2 = (stF n D [] false) from by rw [show (⟨#[99, 104, 111, 115, 101, 110]⟩ : ByteArray) = chN from rfl, first_off hn9 hn1 hfn] <;> rfl] at S; exact S) ?_
  refine l_nil ?_
  refine q_then ?_
  refine c_seq ?_
  refine c_region ?_
  refine o_assign rfl rfl ?_
  refine l_nil ?_
  refine q_then ?_
  refine c_seq ?_
  refine c_seq ?_
  refine c_region ?_
  refine o_move rfl rfl ?_
  refine o_len rfl rfl Try.underlying74 ?_
  refine o_move rfl rfl ?_
  refine l_nil ?_
  refine q_then ?_
  refine c_block ?_
  refine c_loop (α := Nat × (List (Nat × VSA)) × (List Bool) × (List (Int × Int)) × Bool × Nat) (fun z => [(1, .int .u64 tk0), (2, .int .u64 tl0), (8, .pointer (some ⟨kf, 0, none⟩)), (10, .pointer (some ⟨kg, 0, none⟩)), (12, .slice ga ((gs.map Prod.fst)).length gc), (17, .bool z.2.2.2.2.1), (73, .slice ga ((gs.map Prod.fst)).length gc), (74, .int .i64 (((gs.map Prod.fst)).length : Int)), (75, .int .i64 (z.1 : Int))]) (fun z => LdR kf (stF n D z.2.2.2.1 z.2.2.2.2.1) :: row eVPS.T eVPS.sz ga ((gs.map Prod.fst)).length gc (flat eVPS (gs.map Prod.fst)) :: vsR z.2.1 :: LdR kg (S2 n [] []) :: F) (fun z => z.1 ≤ n ∧ V2 n z.2.2.1 (gs.map Prod.fst) z.2.1 z.1 ∧ TakOk n z.1 z.2.2.2.2.2 z.2.2.2.1 z.2.2.2.2.1 ∧ z.2.2.2.2.2 = z.2.2.1.count true) (fun z => n - z.1) (0, gs, [], [], false, 0) (by exact ⟨by omega, hv1n.two, tak_0, by simp⟩) ⟨(by first | rfl | exact vint (by omega)), (by first | rfl | exact vint (by omega)), (by first | rfl | exact vint (by omega)), (by first | rfl | exact vint (by omega)), (by first | rfl | exact vint (by omega)), (by first | rfl | exact vint (by omega)), (by first | rfl | exact vint (by omega)), (by first | rfl | exact vint (by omega)), (by first | rfl | exact vint (by omega)), trivial⟩ (fun w S => S) ?_
  rintro ⟨j, gs2, Ts, tak, done, cnt⟩ ⟨hj, hv2, hto, hcnt⟩
  try dsimp only at *
  refine c_seq ?_
  refine c_region ?_
  refine o_bin rfl rfl rfl b_lss ?_
  refine l_nil ?_
  refine q_then ?_
  refine c_seq ?_
  refine c_cond rfl (fun h2 => ?_) (fun h2 => ?_)
  · -- h2T
   have h2b := h2
   try simp only [decide_eq_true_eq] at h2
   refine c_skip ?_
   refine q_then ?_
   refine c_seq ?_
   refine c_block ?_
   refine c_seq ?_
   refine c_region ?_
   refine o_move rfl rfl ?_
   refine o_index eVPS_ok rfl rfl rfl Try.underlying74 (by omega) (by omega) (rds_own eVPS_ok 1 rfl) fun ad78 ead78 => ?_
   obtain ⟨x78, hx78⟩ : ∃ x, ((gs.map Prod.fst))[((j : Int)).toNat]? = some x := ⟨_, List.getElem?_eq_getElem (by omega)⟩
   refine o_load1 rfl rfl Try.underlying75 rfl (rd_sl0 eVPS_ok ead78 (rds_own eVPS_ok 1 rfl) hx78 rfl) ?_
   refine o_assign rfl rfl ?_
   refine o_assign rfl rfl ?_
   refine l_nil ?_
   refine q_then ?_
   refine c_seq ?_
   refine c_region ?_
   refine o_move rfl rfl ?_
   refine o_move rfl rfl ?_
   refine o_int rfl rfl Try.underlying3 Try.underlying79 (wrap_u64 (by omega) (by omega)) ?_
   refine o_bin rfl rfl rfl (b_shr (by omega) rfl) ?_
   refine o_bin rfl rfl rfl (b_and rfl) ?_
   refine o_bin rfl rfl rfl b_eql ?_
   refine o_move rfl rfl ?_
   refine l_split (t := 86) rfl (fun h3 => ?_) (fun h3 => ?_)
   · -- h3T
    have h3b := h3
    try simp only [decide_eq_true_eq, decide_eq_false_iff_not, Bool.not_eq_eq_eq_not, Bool.not_true, Bool.not_false, Bool.not_eq_true', Bool.not_eq_false', Int.not_lt, Int.not_le, Bool.or_eq_true, Bool.and_eq_true] at h3
    refine o_yes rfl rfl rfl ?_
    refine o_move rfl rfl ?_
    refine o_yes rfl rfl rfl ?_
    refine o_build rfl sp40 ti40 rfl ((fill_cons (cells' := [.int .i64 0, .int .u64 1, .string ByteArray.empty]) rfl rfl rfl rfl (fill_cons (cells' := [.int .i64 0, .int .u64 1, .string ⟨#[99, 104, 111, 115, 101, 110]⟩]) rfl rfl rfl rfl fill_nil))) ?_
    obtain ⟨z, hz⟩ : ∃ z, gs2[j]? = some z := ⟨_, List.getElem?_eq_getElem (by have := hv2.len; omega)⟩
    have hzs : z.2 = stL false := hv2.new j z (Nat.le_refl _) hz
    have hzp : z.1 = x78 := by have h9 := hx78; rw [← hv2.fst] at h9; rw [show ((j : Int)).toNat = j from rfl, List.getElem?_map, hz] at h9; exact Option.some.inj h9
    refine l_conv (fun w S => S.perm p3) ?_
    refine l_conv (fun w S => S.perm p2) ?_
    refine l_conv (fun w S => S.perm p2) ?_
    refine l_conv (fun w S => S.perm p3) ?_
    refine l_conv (L' := VtA x78 (stL false) :: vsR (gs2.eraseIdx j) :: _) (fun w S => by have h9 := Sat.v_take hz S; rw [hzp, hzs] at h9; exact h9) ?_
    refine o_yes rfl rfl rfl ?_
    refine o_call rfl cal36 rfl (vaccA (v := (⟨0, 1, ⟨#[99, 104, 111, 115, 101, 110]⟩⟩ : (Vt ByteArray)))) ?_
    rintro _ _ ⟨rfl, rfl⟩
    refine l_eq (t := 89) (v' := .bool true) rfl (show _ = Value.bool true from by exact congrArg _ (decide_eq_true acc_yes)) ?_
    refine l_conv (L' := VtA x78 (stL true) :: _) (fun w S => by rw [show (accSA (stL false) (⟨0, 1, ⟨#[99, 104, 111, 115, 101, 110]⟩⟩ : (Vt ByteArray))) = (stL true) from acc_st] at S; exact S) ?_
    refine o_pick_true rfl rfl rfl ?_
    refine l_nil ?_
    refine q_then ?_
    refine c_true rfl ?_
    refine c_seq ?_
    refine c_region ?_
    refine o_move rfl rfl ?_
    refine o_move rfl rfl ?_
    refine l_f2 ?_
    refine o_call rfl cal17 rfl (takenS) ?_
    rintro _ _ ⟨rfl, rfl⟩
    obtain ⟨tak2, ok2, x2, htk, hto2⟩ := tak_step (D := D) hn9 (show j < n by omega) hDl hto
    refine l_conv (L' := LdR kf (stF n D tak2 (done || ok2)) :: _) (fun w S => by rw [show ((stF n D tak done).taken ByteArray.empty (j : Int) 0).2 = (stF n D tak2 (done || ok2)) from by rw [htk]] at S; exact S) ?_
    refine o_move rfl rfl ?_
    refine o_extract rfl rfl rfl ?_
    refine o_extract rfl rfl rfl ?_
    refine l_eq (t := 96) (v' := .bool ok2) rfl (by rw [htk] <;> rfl) ?_
    refine o_assign rfl rfl ?_
    refine o_assign rfl rfl ?_
    refine l_nil ?_
    refine q_then ?_
    refine c_region ?_
    refine o_move rfl rfl ?_
    refine o_move rfl rfl ?_
    refine l_split (t := 98) rfl (fun h4 => ?_) (fun h4 => ?_)
    · -- h4T
     have h4b := h4
     try simp only [decide_eq_true_eq, decide_eq_false_iff_not, Bool.not_eq_eq_eq_not, Bool.not_true, Bool.not_false, Bool.not_eq_true', Bool.not_eq_false', Int.not_lt, Int.not_le, Bool.or_eq_true, Bool.and_eq_true] at h4
     refine o_no rfl rfl rfl rfl ?_
     refine o_pick_true rfl rfl rfl ?_
     refine l_eq (t := 100) (v' := .bool (done || ok2)) rfl (by simp [*]) ?_
     refine o_assign rfl rfl ?_
     refine l_nil ?_
     refine q_block ?_
     refine q_then ?_
     refine c_conv (fun w S => S.perm p4) ?_
     refine c_conv (fun w S => S.perm p4) ?_
     refine c_conv (fun w S => S.perm p2) ?_
     refine c_conv (fun w S => S.perm p4) ?_
     refine c_conv (fun w S => S.perm p4) ?_
     refine c_conv (L' := vsR (gs2.set j (x78, (stL true))) :: _) (fun w S => Sat.v_set (by have := hv2.len; omega) S) ?_
     refine c_region ?_
     refine o_bin rfl rfl rfl (b_add (wrap_i64 (by omega) (by omega))) ?_
     refine o_move rfl rfl ?_
     refine l_nil ?_
     refine q_conv (fun w S => S.perm p3) ?_
     refine q_conv (fun w S => S.perm p1) ?_
     refine q_conv (fun w S => S.perm p3) ?_
     refine q_conv (fun w S => S.perm p3) ?_
     exact q_round (j + 1, (gs2.set j (x78, (stL true))), (Ts ++ [true]), tak2, (done || ok2), cnt + 1) (by exact ⟨by omega, hv2.yes hz hzp, hto2, by rw [hcnt]; simp⟩) (by (try dsimp only); omega) ⟨(by first | rfl | exact vint (by omega)), (by first | rfl | exact vint (by omega)), (by first | rfl | exact vint (by omega)), (by first | rfl | exact vint (by omega)), (by first | rfl | exact vint (by omega)), (by first | rfl | exact vint (by omega)), (by first | rfl | exact vint (by omega)), (by first | rfl | exact vint (by omega)), (by first | rfl | exact vint (by omega)), trivial⟩ (fun w S => S)
    · -- h4F
     have h4b := h4
     try simp only [decide_eq_true_eq, decide_eq_false_iff_not, Bool.not_eq_eq_eq_not, Bool.not_true, Bool.not_false, Bool.not_eq_true', Bool.not_eq_false', Int.not_lt, Int.not_le, Bool.or_eq_true, Bool.and_eq_true] at h4
     refine o_yes rfl rfl rfl ?_
     refine o_move rfl rfl ?_
     refine o_pick_false rfl rfl rfl ?_
     refine l_eq (t := 100) (v' := .bool (done || ok2)) rfl (by simp [*]) ?_
     refine o_assign rfl rfl ?_
     refine l_nil ?_
     refine q_block ?_
     refine q_then ?_
     refine c_conv (fun w S => S.perm p4) ?_
     refine c_conv (fun w S => S.perm p4) ?_
     refine c_conv (fun w S => S.perm p2) ?_
     refine c_conv (fun w S => S.perm p4) ?_
     refine c_conv (fun w S => S.perm p4) ?_
     refine c_conv (L' := vsR (gs2.set j (x78, (stL true))) :: _) (fun w S => Sat.v_set (by have := hv2.len; omega) S) ?_
     refine c_region ?_
     refine o_bin rfl rfl rfl (b_add (wrap_i64 (by omega) (by omega))) ?_
     refine o_move rfl rfl ?_
     refine l_nil ?_
     refine q_conv (fun w S => S.perm p3) ?_
     refine q_conv (fun w S => S.perm p1) ?_
     refine q_conv (fun w S => S.perm p3) ?_
     refine q_conv (fun w S => S.perm p3) ?_
     exact q_round (j + 1, (gs2.set j (x78, (stL true))), (Ts ++ [true]), tak2, (done || ok2), cnt + 1) (by exact ⟨by omega, hv2.yes hz hzp, hto2, by rw [hcnt]; simp⟩) (by (try dsimp only); omega) ⟨(by first | rfl | exact vint (by omega)), (by first | rfl | exact vint (by omega)), (by first | rfl | exact vint (by omega)), (by first | rfl | exact vint (by omega)), (by first | rfl | exact vint (by omega)), (by first | rfl | exact vint (by omega)), (by first | rfl | exact vint (by omega)), (by first | rfl | exact vint (by omega)), (by first | rfl | exact vint (by omega)), trivial⟩ (fun w S => S)
   · -- h3F
    have h3b := h3
    try simp only [decide_eq_true_eq, decide_eq_false_iff_not, Bool.not_eq_eq_eq_not, Bool.not_true, Bool.not_false, Bool.not_eq_true', Bool.not_eq_false', Int.not_lt, Int.not_le, Bool.or_eq_true, Bool.and_eq_true] at h3
    refine o_no rfl rfl rfl rfl ?_
    refine o_no rfl rfl rfl rfl ?_
    refine o_no rfl rfl rfl rfl ?_
    refine o_pick_false rfl rfl rfl ?_
    refine l_nil ?_
    refine q_then ?_
    refine c_false rfl ?_
    refine c_skip ?_
    refine q_block ?_
    refine q_then ?_
    refine c_region ?_
    refine o_bin rfl rfl rfl (b_add (wrap_i64 (by omega) (by omega))) ?_
    refine o_move rfl rfl ?_
    refine l_nil ?_
    exact q_round (j + 1, gs2, (Ts ++ [false]), tak, done, cnt) (by exact ⟨by omega, hv2.no, hto.up, by rw [hcnt]; simp⟩) (by (try dsimp only); omega) ⟨(by first | rfl | exact vint (by omega)), (by first | rfl | exact vint (by omega)), (by first | rfl | exact vint (by omega)), (by first | rfl | exact vint (by omega)), (by first | rfl | exact vint (by omega)), (by first | rfl | exact vint (by omega)), (by first | rfl | exact vint (by omega)), (by first | rfl | exact vint (by omega)), (by first | rfl | exact vint (by omega)), trivial⟩ (fun w S => S)
  · -- h2F
   have h2b := h2
   try simp only [decide_eq_false_iff_not, Int.not_lt, Int.not_le] at h2
   refine c_exit ?_
   refine q_pass_exit ?_
   refine q_pass_exit ?_
   refine q_hit ?_
   refine q_then ?_
   refine c_seq ?_
   refine c_seq ?_
   have hjn : n = j := by omega
   have hv3n := hv2.three hjn
   have hTl : Ts.length = n := by rw [hjn]; exact hv2.tl
   refine c_region ?_
   refine o_move rfl rfl ?_
   refine o_len rfl rfl Try.underlying74 ?_
   refine o_move rfl rfl ?_
   refine l_nil ?_
   refine q_then ?_
   refine c_block ?_
   refine c_loop (α := Nat × (List (Nat × VSA)) × (List (Int × Int)) × (List (Int × Vt ByteArray))) (fun z => [(2, .int .u64 tl0), (10, .pointer (some ⟨kg, 0, none⟩)), (17, .bool done), (102, .slice ga ((gs.map Prod.fst)).length gc), (103, .int .i64 (((gs.map Prod.fst)).length : Int)), (104, .int .i64 (z.1 : Int))]) (fun z => LdR kf (stF n D tak done) :: row eVPS.T eVPS.sz ga ((gs.map Prod.fst)).length gc (flat eVPS (gs.map Prod.fst)) :: vsR z.2.1 :: LdR kg (S2 n z.2.2.1 z.2.2.2) :: F) (fun z => z.1 ≤ n ∧ V3 Ts (gs.map Prod.fst) z.2.1 z.1 ∧ LatOk Ts z.1 z.2.2.1 z.2.2.2) (fun z => n - z.1) (0, gs2, [], []) (by exact ⟨by omega, hv3n, lat_0⟩) ⟨(by first | rfl | exact vint (by omega)), (by first | rfl | exact vint (by omega)), (by first | rfl | exact vint (by omega)), (by first | rfl | exact vint (by omega)), (by first | rfl | exact vint (by omega)), (by first | rfl | exact vint (by omega)), trivial⟩ (fun w S => S) ?_
   rintro ⟨l, gs3, D2, told⟩ ⟨hl, hv3, hlt⟩
   try dsimp only at *
   refine c_seq ?_
   refine c_region ?_
   refine o_bin rfl rfl rfl b_lss ?_
   refine l_nil ?_
   refine q_then ?_
   refine c_seq ?_
   refine c_cond rfl (fun h5 => ?_) (fun h5 => ?_)
   · -- h5T
    have h5b := h5
    try simp only [decide_eq_true_eq] at h5
    refine c_skip ?_
    refine q_then ?_
    refine c_seq ?_
    refine c_block ?_
    refine c_seq ?_
    refine c_region ?_
    refine o_move rfl rfl ?_
    refine o_index eVPS_ok rfl rfl rfl Try.underlying74 (by omega) (by omega) (rds_own eVPS_ok 1 rfl) fun ad107 ead107 => ?_
    obtain ⟨x107, hx107⟩ : ∃ x, ((gs.map Prod.fst))[((l : Int)).toNat]? = some x := ⟨_, List.getElem?_eq_getElem (by omega)⟩
    refine o_load1 rfl rfl Try.underlying75 rfl (rd_sl0 eVPS_ok ead107 (rds_own eVPS_ok 1 rfl) hx107 rfl) ?_
    refine o_assign rfl rfl ?_
    refine o_assign rfl rfl ?_
    refine l_nil ?_
    refine q_then ?_
    refine c_seq ?_
    refine c_region ?_
    refine o_move rfl rfl ?_
    refine o_move rfl rfl ?_
    refine o_int rfl rfl Try.underlying3 Try.underlying79 (wrap_u64 (by omega) (by omega)) ?_
    refine o_bin rfl rfl rfl (b_shr (by omega) rfl) ?_
    refine o_bin rfl rfl rfl (b_and rfl) ?_
    refine o_bin rfl rfl rfl b_eql ?_
    refine l_nil ?_
    refine q_then ?_
    refine c_cond rfl (fun h6 => ?_) (fun h6 => ?_)
    · -- h6T
     have h6b := h6
     try simp only [decide_eq_true_eq, decide_eq_false_iff_not, Bool.not_eq_eq_eq_not, Bool.not_true, Bool.not_false, Bool.not_eq_true', Bool.not_eq_false', Int.not_lt, Int.not_le, Bool.or_eq_true, Bool.and_eq_true] at h6
     refine c_seq ?_
     obtain ⟨z, hz⟩ : ∃ z, gs3[l]? = some z := ⟨_, List.getElem?_eq_getElem (by have := hv3.len; omega)⟩
     obtain ⟨tb, htb, hzs⟩ := hv3.st l z (Nat.le_refl _) hz
     have hzp : z.1 = x107 := by have h9 := hx107; rw [← hv3.fst] at h9; rw [show ((l : Int)).toNat = l from rfl, List.getElem?_map, hz] at h9; exact Option.some.inj h9
     refine c_conv (fun w S => S.perm p3) ?_
     refine c_conv (fun w S => S.perm p2) ?_
     refine c_conv (fun w S => S.perm p2) ?_
     refine c_conv (fun w S => S.perm p3) ?_
     refine c_conv (L' := VtA x107 (stL tb) :: vsR (gs3.eraseIdx l) :: _) (fun w S => by have h9 := Sat.v_take hz S; rw [hzp, hzs] at h9; exact h9) ?_
     refine c_region ?_
     refine o_move rfl rfl ?_
     refine o_call rfl cal35 rfl (vpromA (b := 2) (fr := 0)) ?_
     rintro _ _ ⟨a117, c117, rfl, rfl⟩
     refine o_move rfl rfl ?_
     refine o_extract rfl rfl rfl ?_
     refine o_extract rfl rfl rfl ?_
     refine o_assign rfl rfl ?_
     refine o_assign rfl rfl ?_
     refine l_nil ?_
     refine q_then ?_
     refine c_region ?_
     refine o_move rfl rfl ?_
     refine o_move rfl rfl ?_
     refine o_move rfl rfl ?_
     refine l_f5 ?_
     refine o_call rfl cal13 rfl (promisedS (vs := (promLA (stL tb) 2 0)) (a := a117) (c := c117) (rds_own eVS_ok 0 rfl) (by rw [pl_two]; cases tb <;> simp)) ?_
     rintro _ _ ⟨rfl, rfl⟩
     obtain ⟨D3, told3, hd3, hl3⟩ := lat_step hn9 (show l < n by omega) htb hlt
     refine l_conv (L' := LdR kg (S2 n D3 told3) :: _) (fun w S => by rw [show ((S2 n D2 told).promised z0S (l : Int) (promLA (stL tb) 2 0)) = (S2 n D3 told3) from by rw [pl_two]; exact hd3] at S; exact S) ?_
     refine l_nil ?_
     refine q_block ?_
     refine q_then ?_
     refine c_conv (fun w S => S.perm p5) ?_
     refine c_conv (fun w S => S.perm p5) ?_
     refine c_conv (fun w S => S.perm p3) ?_
     refine c_conv (fun w S => S.perm p3) ?_
     refine c_conv (fun w S => S.perm p5) ?_
     refine c_conv (fun w S => S.perm p5) ?_
     refine c_conv (L' := vsR (gs3.set l (x107, (promSA (stL tb) 2))) :: _) (fun w S => Sat.v_set (by have := hv3.len; omega) S) ?_
     refine c_region ?_
     refine o_bin rfl rfl rfl (b_add (wrap_i64 (by omega) (by omega))) ?_
     refine o_move rfl rfl ?_
     refine l_nil ?_
     refine q_conv (fun w S => (S.perm p2).tail) ?_
     refine q_conv (fun w S => S.perm p1) ?_
     refine q_conv (fun w S => S.perm p1) ?_
     refine q_conv (fun w S => S.perm p3) ?_
     refine q_conv (fun w S => S.perm p3) ?_
     exact q_round (l + 1, (gs3.set l (x107, (promSA (stL tb) 2))), D3, told3) (by exact ⟨by omega, hv3.set hz hzp, hl3⟩) (by (try dsimp only); omega) ⟨(by first | rfl | exact vint (by omega)), (by first | rfl | exact vint (by omega)), (by first | rfl | exact vint (by omega)), (by first | rfl | exact vint (by omega)), (by first | rfl | exact vint (by omega)), (by first | rfl | exact vint (by omega)), trivial⟩ (fun w S => S)
    · -- h6F
     have h6b := h6
     try simp only [decide_eq_true_eq, decide_eq_false_iff_not, Bool.not_eq_eq_eq_not, Bool.not_true, Bool.not_false, Bool.not_eq_true', Bool.not_eq_false', Int.not_lt, Int.not_le, Bool.or_eq_true, Bool.and_eq_true] at h6
     refine c_skip ?_
     refine q_block ?_
     refine q_then ?_
     refine c_region ?_
     refine o_bin rfl rfl rfl (b_add (wrap_i64 (by omega) (by omega))) ?_
     refine o_move rfl rfl ?_
     refine l_nil ?_
     exact q_round (l + 1, gs3, D2, told) (by exact ⟨by omega, hv3.up, hlt.up (by omega)⟩) (by (try dsimp only); omega) ⟨(by first | rfl | exact vint (by omega)), (by first | rfl | exact vint (by omega)), (by first | rfl | exact vint (by omega)), (by first | rfl | exact vint (by omega)), (by first | rfl | exact vint (by omega)), (by first | rfl | exact vint (by omega)), trivial⟩ (fun w S => S)
   · -- h5F
    have h5b := h5
    try simp only [decide_eq_false_iff_not, Int.not_lt, Int.not_le] at h5
    refine c_exit ?_
    refine q_pass_exit ?_
    refine q_pass_exit ?_
    refine q_hit ?_
    refine q_then ?_
    refine c_seq ?_
    refine c_seq ?_
    refine c_region ?_
    refine o_move rfl rfl ?_
    refine o_not rfl rfl ?_
    refine o_move rfl rfl ?_
    refine l_split (t := 127) rfl (fun h7 => ?_) (fun h7 => ?_)
    · -- h7T
     have h7b := h7
     try simp only [decide_eq_true_eq, decide_eq_false_iff_not, Bool.not_eq_eq_eq_not, Bool.not_true, Bool.not_false, Bool.not_eq_true', Bool.not_eq_false', Int.not_lt, Int.not_le, Bool.or_eq_true, Bool.and_eq_true] at h7
     refine o_no rfl rfl rfl rfl ?_
     refine o_no rfl rfl rfl rfl ?_
     refine o_no rfl rfl rfl rfl ?_
     refine o_pick_true rfl rfl rfl ?_
     refine l_nil ?_
     refine q_then ?_
     refine c_true rfl ?_
     refine c_seq ?_
     refine c_region ?_
     refine o_assign rfl rfl ?_
     refine l_nil ?_
     refine q_then ?_
     refine c_ret ?_
     refine q_pass_ret ?_
     refine q_conv (fun w S => S.tail) ?_
     refine q_conv (fun w S => S.tail) ?_
     refine q_conv (fun w S => S.tail) ?_
     refine q_conv (fun w S => S.tail) ?_
     exact f_ret (r_one rfl rfl) (⟨rfl, rfl⟩) (fun w S => S)
    · -- h7F
     have h7b := h7
     try simp only [decide_eq_true_eq, decide_eq_false_iff_not, Bool.not_eq_eq_eq_not, Bool.not_true, Bool.not_false, Bool.not_eq_true', Bool.not_eq_false', Int.not_lt, Int.not_le, Bool.or_eq_true, Bool.and_eq_true] at h7
     refine o_yes rfl rfl rfl ?_
     refine o_move rfl rfl ?_
     refine o_yes rfl rfl rfl ?_
     refine l_f3 ?_
     refine o_call rfl cal21 rfl (leadsS) ?_
     rintro _ _ ⟨rfl, rfl⟩
     refine o_yes rfl rfl rfl ?_
     refine o_not rfl rfl ?_
     refine o_pick_false rfl rfl rfl ?_
     refine l_nil ?_
     refine q_then ?_
     refine c_cond rfl (fun h8 => ?_) (fun h8 => ?_)
     · -- h8T
      have h8b := h8
      try simp only [decide_eq_true_eq, decide_eq_false_iff_not, Bool.not_eq_eq_eq_not, Bool.not_true, Bool.not_false, Bool.not_eq_true', Bool.not_eq_false', Int.not_lt, Int.not_le, Bool.or_eq_true, Bool.and_eq_true] at h8
      refine c_seq ?_
      refine c_region ?_
      refine o_assign rfl rfl ?_
      refine l_nil ?_
      refine q_then ?_
      refine c_ret ?_
      refine q_pass_ret ?_
      refine q_conv (fun w S => S.tail) ?_
      refine q_conv (fun w S => S.tail) ?_
      refine q_conv (fun w S => S.tail) ?_
      refine q_conv (fun w S => S.tail) ?_
      exact f_ret (r_one rfl rfl) (⟨rfl, rfl⟩) (fun w S => S)
     · -- h8F
      have h8b := h8
      try simp only [decide_eq_true_eq, decide_eq_false_iff_not, Bool.not_eq_eq_eq_not, Bool.not_true, Bool.not_false, Bool.not_eq_true', Bool.not_eq_false', Int.not_lt, Int.not_le, Bool.or_eq_true, Bool.and_eq_true] at h8
      refine c_skip ?_
      refine q_then ?_
      refine c_seq ?_
      have hln : l = n := by omega
      have hltn : LatOk Ts n D2 told := by rw [hln] at hlt; exact hlt
      have hdn : n / 2 < cnt := of_decide_eq_true (by rw [← hto.dn]; simpa using ‹_›)
      have hend := later_end hn9 hTl hltn hcnt hdn (by first | assumption | (rw [later_leads hn9] at *; simp_all))
      refine c_region ?_
      refine o_move rfl rfl ?_
      refine o_call rfl cal19 rfl (valueS) ?_
      rintro _ _ ⟨rfl, rfl⟩
      refine o_move rfl rfl ?_
      refine o_extract rfl rfl rfl ?_
      refine l_eq (t := 135) (v' := .string chN) rfl (by rw [hend.1] <;> rfl) ?_
      refine o_extract rfl rfl rfl ?_
      refine l_eq (t := 136) (v' := .bool true) rfl (show _ = Value.bool true from by rw [hend.1] <;> rfl) ?_
      refine o_assign rfl rfl ?_
      refine o_assign rfl rfl ?_
      refine l_nil ?_
      refine q_then ?_
      refine c_seq ?_
      refine c_region ?_
      refine o_move rfl rfl ?_
      refine o_move rfl rfl ?_
      refine o_yes rfl rfl rfl ?_
      refine o_move rfl rfl ?_
      refine o_yes rfl rfl rfl ?_
      refine o_bin rfl rfl rfl b_seql ?_
      refine l_eq (t := 140) (v' := .bool true) rfl (show _ = Value.bool true from by exact congrArg _ (decide_eq_true rfl)) ?_
      refine o_pick_true rfl rfl rfl ?_
      refine o_move rfl rfl ?_
      refine o_yes rfl rfl rfl ?_
      refine o_move rfl rfl ?_
      refine o_yes rfl rfl rfl ?_
      refine o_call rfl cal15 rfl (offerS) ?_
      rintro _ _ ⟨rfl, rfl⟩
      refine l_eq (t := 144) (v' := .bool false) rfl (show _ = Value.bool false from by rw [hend.2]) ?_
      refine o_yes rfl rfl rfl ?_
      refine o_not rfl rfl ?_
      refine o_pick_true rfl rfl rfl ?_
      refine o_assign rfl rfl ?_
      refine l_nil ?_
      refine q_then ?_
      refine c_ret ?_
      refine q_conv (fun w S => S.tail) ?_
      refine q_conv (fun w S => S.tail) ?_
      refine q_conv (fun w S => S.tail) ?_
      refine q_conv (fun w S => S.tail) ?_
      exact f_ret (r_one rfl rfl) (⟨rfl, rfl⟩) (fun w S => S)

end Go.Proofs.Ytakjmdeckngnlaa
