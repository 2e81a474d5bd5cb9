/- Printed by eng2.py out of 12/spec2.py. -/
import Derived.Test.YtakjmdeckngnlaaCmp
set_option linter.unusedVariables false
set_option linter.unusedSimpArgs false
set_option maxRecDepth 10000
namespace Go.Proofs.Ytakjmdeckngnlaa
open Go.RowKit Classical
theorem sf_B {W : World} {F : List Res} {x : ItB} {k : Int} : CS Try.prog 65 #[.agg #[.int .i64 x.f_key, .int .i64 x.f_value.Slot, .int .u64 x.f_value.Ballot, .int .i64 x.f_value.Value], .int .i64 k] W (F) (fun r L' => r = .int .i64 (cmpN ilt x.f_key k) ∧ F = L') := by
 refine f_door (l0 := [(0, .agg #[.int .i64 x.f_key, .int .i64 x.f_value.Slot, .int .u64 x.f_value.Ballot, .int .i64 x.f_value.Value]), (1, .int .i64 k)]) Try.func65 Try.ntmps65 rfl rfl rfl ?_
 refine c_seq ?_
 refine c_region ?_
 refine o_box rfl rfl fun b2 => ?_
 refine o_assign rfl rfl ?_
 refine l_nil ?_
 refine q_then ?_
 refine c_seq ?_
 refine c_region ?_
 refine o_fieldAddr (q := ⟨b2, 0, none⟩) rfl rfl Try.underlying125 rfl ti3 rfl ?_
 refine o_load1 rfl rfl Try.underlying3 rfl (rd_mem 0 rfl rfl) ?_
 refine o_move rfl rfl ?_
 refine o_call rfl cal66 rfl (cmp_int (a := x.f_key) (b := k)) ?_
 rintro _ _ ⟨rfl, rfl⟩
 refine o_assign rfl rfl ?_
 refine l_nil ?_
 refine q_then ?_
 refine c_ret ?_
 refine q_conv (fun w S => S.tail) ?_
 exact f_ret (r_one rfl rfl) (⟨rfl, rfl⟩) (fun w S => S)

theorem bs_B {W : World} {F : List Res} {xs : List ItB} {a : Option Addr} {c : Nat} {k : Int} (hs : RdS W F e_ItB a xs) (hn : xs.length ≤ 1000) (srt : Srt ItB.f_key ilt xs) {fv : Value} (hf : ∀ x ∈ xs, FV Try.prog fv [.agg (e_ItB.cells x).toArray, .int .i64 k] W F (fun r L' => r = .int .i64 (cmpN ilt x.f_key k) ∧ F = L')) : CS Try.prog 64 #[.slice a (xs).length c, .int .i64 k, fv] W (F) (fun r L' => ∃ (i : Nat) (fd : Bool), (Found ItB.f_key ilt k xs i ∧ (fd = true ↔ ∃ y, xs[i]? = some y ∧ y.f_key = k)) ∧ r = .tuple #[.int .i64 (i : Int), .bool fd] ∧ F = L') := by
 refine f_door (l0 := [(0, .slice a (xs).length c), (1, .int .i64 k), (2, fv)]) Try.func64 Try.ntmps64 rfl rfl rfl ?_
 refine c_seq ?_
 refine c_region ?_
 refine o_assign rfl rfl ?_
 refine o_assign rfl rfl ?_
 refine l_nil ?_
 refine q_then ?_
 refine c_seq ?_
 refine c_region ?_
 refine o_move rfl rfl ?_
 refine o_len rfl rfl Try.underlying112 ?_
 refine o_assign rfl rfl ?_
 refine l_nil ?_
 refine q_then ?_
 refine c_seq ?_
 refine c_region ?_
 refine o_move rfl rfl ?_
 refine o_assign rfl rfl ?_
 refine o_assign rfl rfl ?_
 refine l_nil ?_
 refine q_then ?_
 refine c_seq ?_
 refine c_block ?_
 refine c_loop (α := Nat × Nat) (fun z => [(0, .slice a (xs).length c), (1, .int .i64 k), (2, fv), (8, .int .i64 ((xs).length : Int)), (9, .int .i64 (z.1 : Int)), (10, .int .i64 (z.2 : Int))]) (fun z => F) (fun z => z.1 ≤ z.2 ∧ z.2 ≤ xs.length ∧ (∀ c ∈ xs.take z.1, ilt c.f_key k) ∧ ∀ d ∈ xs.drop z.2, ¬ ilt d.f_key k) (fun z => z.2 - z.1) (0, xs.length) (by exact ⟨Nat.zero_le _, Nat.le_refl _, fun c hc => (by simp at hc), fun d hd => (by simp at hd)⟩) ⟨(by first | rfl | exact vint (by omega)), (by first | rfl | exact vint (by omega)), (by first | rfl | exact vint (by omega)), (by first | rfl | exact vint (by omega)), (by first | rfl | exact vint (by omega)), (by first | rfl | exact vint (by omega)), trivial⟩ (fun w S => S) ?_
 rintro ⟨i, j⟩ ⟨hij, hjn, hlo, hhi⟩
 try dsimp only at *
 refine c_seq ?_
 refine c_seq ?_
 refine c_region ?_
 refine o_move rfl rfl ?_
 refine o_move rfl rfl ?_
 refine o_bin rfl rfl rfl b_lss ?_
 refine l_nil ?_
 refine q_then ?_
 refine c_cond rfl (fun h1 => ?_) (fun h1 => ?_)
 · -- h1T
  have h1b := h1
  try simp only [decide_eq_true_eq] at h1
  refine c_skip ?_
  refine q_then ?_
  refine c_block ?_
  refine c_seq ?_
  refine c_region ?_
  refine o_move rfl rfl ?_
  refine o_move rfl rfl ?_
  refine o_bin rfl rfl rfl (b_add (show IntKind.i64.wrap ((i : Int) + (j : Int)) = ((i + j : Nat) : Int) from by rw [wrap_i64 (by omega) (by omega)]; omega)) ?_
  refine o_int rfl rfl Try.underlying3 Try.underlying79 (wrap_u64 (by omega) (by omega)) ?_
  refine o_bin rfl rfl rfl (b_shr (by omega) (shr1u (i + j))) ?_
  refine o_int rfl rfl Try.underlying79 Try.underlying3 (wrap_i64 (by omega) (by omega)) ?_
  refine o_assign rfl rfl ?_
  refine l_nil ?_
  refine q_then ?_
  refine c_seq ?_
  refine c_fact (p := ∃ ad, a = some ad) (rds_some (e := e_ItB) (xs := xs) hs (by intro h0; have h00 := congrArg List.length h0; simp only [List.length_nil] at h00; omega)) ?_
  rintro ⟨adx, eadx⟩
  refine c_region ?_
  refine o_move rfl rfl ?_
  refine o_move rfl rfl ?_
  refine o_move rfl rfl ?_
  refine o_indexK e_ItB_ok eadx rfl rfl rfl Try.underlying112 (by omega) (by omega) ?_
  obtain ⟨x27, hx27⟩ : ∃ x, (xs)[((((i + j) / 2 : Nat) : Int)).toNat]? = some x := ⟨_, List.getElem?_eq_getElem (by omega)⟩
  have hx27' : xs[(i + j) / 2]? = some x27 := hx27
  refine o_loadn (vs := e_ItB.cells x27) rfl rfl Try.underlying125 rfl ti125 (rdn_sl e_ItB_ok eadx hs hx27) ?_
  refine o_move rfl rfl ?_
  refine o_callV rfl rfl rfl (hf x27 (List.mem_of_getElem? hx27)) ?_
  rintro _ _ ⟨rfl, rfl⟩
  refine o_bin rfl rfl rfl b_lss ?_
  refine l_nil ?_
  refine q_then ?_
  refine c_cond rfl (fun h2 => ?_) (fun h2 => ?_)
  · -- h2T
   have h2b := h2
   try simp only [decide_eq_true_eq] at h2
   refine c_region ?_
   refine o_move rfl rfl ?_
   refine o_bin rfl rfl rfl (b_add (wrap_i64 (by omega) (by omega))) ?_
   refine o_assign rfl rfl ?_
   refine l_nil ?_
   refine q_block ?_
   exact q_round (((i + j) / 2 + 1), j) (by exact ⟨by omega, by omega, lo_on (key := ItB.f_key) ilt_sto srt hx27' (cmpN_neg.1 (by simpa using h2b)), hhi⟩) (by (try dsimp only); omega) ⟨(by first | rfl | exact vint (by omega)), (by first | rfl | exact vint (by omega)), (by first | rfl | exact vint (by omega)), (by first | rfl | exact vint (by omega)), (by first | rfl | exact vint (by omega)), (by first | rfl | exact vint (by omega)), trivial⟩ (fun w S => S)
  · -- h2F
   have h2b := h2
   try simp only [decide_eq_false_iff_not, Int.not_lt, Int.not_le] at h2
   refine c_region ?_
   refine o_move rfl rfl ?_
   refine o_assign rfl rfl ?_
   refine l_nil ?_
   refine q_block ?_
   exact q_round (i, ((i + j) / 2)) (by exact ⟨by omega, by omega, hlo, hi_on (key := ItB.f_key) ilt_sto srt hx27' (fun h9 => absurd (cmpN_neg.2 h9) (by simpa using h2b))⟩) (by (try dsimp only); omega) ⟨(by first | rfl | exact vint (by omega)), (by first | rfl | exact vint (by omega)), (by first | rfl | exact vint (by omega)), (by first | rfl | exact vint (by omega)), (by first | rfl | exact vint (by omega)), (by first | rfl | exact vint (by omega)), trivial⟩ (fun w S => S)
 · -- h1F
  have h1b := h1
  try simp only [decide_eq_false_iff_not, Int.not_lt, Int.not_le] at h1
  refine c_exit ?_
  refine q_pass_exit ?_
  refine q_pass_exit ?_
  refine q_hit ?_
  refine q_then ?_
  refine c_seq ?_
  refine c_region ?_
  refine o_move rfl rfl ?_
  refine o_move rfl rfl ?_
  refine o_move rfl rfl ?_
  refine o_bin rfl rfl rfl b_lss ?_
  refine o_move rfl rfl ?_
  refine l_split (t := 39) rfl (fun h3 => ?_) (fun h3 => ?_)
  · -- h3T
   have h3b := h3
   try simp only [decide_eq_true_eq] at h3
   refine o_yes rfl rfl rfl ?_
   refine o_move rfl rfl ?_
   refine o_yes rfl rfl rfl ?_
   refine o_move rfl rfl ?_
   refine o_yes rfl rfl rfl ?_
   refine o_move rfl rfl ?_
   skip
   refine o_yes rfl rfl rfl ?_
   refine o_index e_ItB_ok rfl rfl rfl Try.underlying112 (by omega) (by omega) hs fun ad43 ead43 => ?_
   obtain ⟨x43, hx43⟩ : ∃ x, (xs)[((i : Int)).toNat]? = some x := ⟨_, List.getElem?_eq_getElem (by omega)⟩
   refine o_yes rfl rfl rfl ?_
   refine o_loadn (vs := e_ItB.cells x43) rfl rfl Try.underlying125 rfl ti125 (rdn_sl e_ItB_ok ead43 hs hx43) ?_
   refine o_yes rfl rfl rfl ?_
   refine o_move rfl rfl ?_
   refine o_yes rfl rfl rfl ?_
   refine o_callV rfl rfl rfl (hf x43 (List.mem_of_getElem? hx43)) ?_
   rintro _ _ ⟨rfl, rfl⟩
   refine o_yes rfl rfl rfl ?_
   refine o_bin rfl rfl rfl b_eql ?_
   refine o_pick_true rfl rfl rfl ?_
   refine o_assign rfl rfl ?_
   refine o_assign rfl rfl ?_
   refine l_nil ?_
   refine q_then ?_
   refine c_ret ?_
   exact f_ret (r_two rfl rfl rfl) (⟨i, _, ⟨⟨by omega, hlo, by rw [show i = j by omega]; exact hhi⟩, by rw [decide_eq_true_iff, cmpN_eq ilt_sto]; exact ⟨fun h9 => ⟨x43, hx43, h9⟩, fun ⟨y, hy, h9⟩ => by rw [show xs[i]? = some x43 from hx43] at hy; cases hy; exact h9⟩⟩, rfl, rfl⟩) (fun w S => S)
  · -- h3F
   have h3b := h3
   try simp only [decide_eq_false_iff_not, Int.not_lt, Int.not_le] at h3
   refine o_no rfl rfl rfl rfl ?_
   refine o_no rfl rfl rfl rfl ?_
   refine o_no rfl rfl rfl rfl ?_
   refine o_no rfl rfl rfl rfl ?_
   refine o_no rfl rfl rfl rfl ?_
   refine o_no rfl rfl rfl rfl ?_
   refine o_no rfl rfl rfl rfl ?_
   refine o_no rfl rfl rfl rfl ?_
   refine o_pick_false rfl rfl rfl ?_
   refine o_assign rfl rfl ?_
   refine o_assign rfl rfl ?_
   refine l_nil ?_
   refine q_then ?_
   refine c_ret ?_
   exact f_ret (r_two rfl rfl rfl) (⟨i, false, ⟨⟨by omega, hlo, by rw [show i = j by omega]; exact hhi⟩, ⟨fun h9 => (by cases h9), fun ⟨y, hy, _⟩ => absurd (List.getElem?_eq_some_iff.1 hy).1 (by omega)⟩⟩, rfl, rfl⟩) (fun w S => S)

theorem search_B {W : World} {F : List Res} {b nk : Nat} {xs : List ItB} {a ak : Option Addr} {c ck : Nat} {k : Int} (hn : xs.length ≤ 1000) (srt : Srt ItB.f_key ilt xs) : CS Try.prog 54 #[.pointer (some ⟨b, 0, none⟩), .int .i64 k] W (blk b (.cells #[.slice a (xs).length c, .slice ak nk ck] 115 (0, 0)) :: row e_ItB.T e_ItB.sz a (xs).length c (flat e_ItB xs) :: F) (fun r L' => ∃ (i : Nat) (fd : Bool), (Found ItB.f_key ilt k xs i ∧ (fd = true ↔ ∃ y, xs[i]? = some y ∧ y.f_key = k)) ∧ r = .tuple #[.int .i64 (i : Int), .bool fd] ∧ L' = blk b (.cells #[.slice a (xs).length c, .slice ak nk ck] 115 (0, 0)) :: row e_ItB.T e_ItB.sz a (xs).length c (flat e_ItB xs) :: F) := by
 refine f_door (l0 := [(0, .pointer (some ⟨b, 0, none⟩)), (1, .int .i64 k)]) Try.func54 Try.ntmps54 rfl rfl rfl ?_
 refine c_seq ?_
 refine c_region ?_
 refine o_assign rfl rfl ?_
 refine o_assign rfl rfl ?_
 refine l_nil ?_
 refine q_then ?_
 refine c_seq ?_
 refine c_region ?_
 refine o_move rfl rfl ?_
 refine o_nil rfl rfl ?_
 refine o_fieldAddr (q := ⟨b, 0, none⟩) rfl rfl Try.underlying115 rfl ti112 rfl ?_
 refine o_load1 rfl rfl Try.underlying112 rfl (rd_mem 0 rfl rfl) ?_
 refine o_move rfl rfl ?_
 refine o_call rfl cal64 rfl (bs_B (k := k) (rds_own e_ItB_ok 1 rfl) hn srt (fun x hx => FV.of_csL cal65 (sf_B (x := x) (k := k)))) ?_
 rintro _ _ ⟨i11, fd11, ⟨hF11, hfd11⟩, rfl, rfl⟩
 refine o_extract rfl rfl rfl ?_
 refine o_extract rfl rfl rfl ?_
 refine o_assign rfl rfl ?_
 refine o_assign rfl rfl ?_
 refine l_nil ?_
 refine q_then ?_
 refine c_ret ?_
 exact f_ret (r_two rfl rfl rfl) (⟨i11, fd11, ⟨hF11, hfd11⟩, rfl, rfl⟩) (fun w S => S)

theorem cloI_B {W : World} {F : List Res} {xs : List ItB} {a : Option Addr} {c : Nat} (hs : RdS W F e_ItB a xs) (hn : xs.length ≤ 1000) : CS Try.prog 57 #[.slice a (xs).length c] W (F) (fun r L' => ∃ (a' : Option Addr) (c' : Nat), r = .slice a' xs.length c' ∧ L' = row e_ItB.T e_ItB.sz a' (xs).length c' (flat e_ItB xs) :: F) := by
 refine f_door (l0 := [(0, .slice a (xs).length c)]) Try.func57 Try.ntmps57 rfl rfl rfl ?_
 refine c_seq ?_
 refine c_fact (rds_nilq hs) ?_
 intro hz
 refine c_region ?_
 refine o_assign rfl rfl ?_
 refine l_nil ?_
 refine q_then ?_
 refine c_seq ?_
 refine c_seq ?_
 refine c_region ?_
 refine o_move rfl rfl ?_
 refine o_bin rfl rfl rfl (b_sleq Try.underlying112 _ _ _) ?_
 refine l_nil ?_
 refine q_then ?_
 refine c_cond rfl (fun h1 => ?_) (fun h1 => ?_)
 · -- h1T
  have h1b := h1
  try simp only [decide_eq_true_eq, decide_eq_false_iff_not, Bool.not_eq_eq_eq_not, Bool.not_true, Bool.not_false, Bool.not_eq_true', Bool.not_eq_false', Int.not_lt, Int.not_le, Bool.or_eq_true, Bool.and_eq_true] at h1
  have hnil : xs = [] := hz (by simpa using h1)
  refine c_seq ?_
  refine c_region ?_
  refine o_assign rfl rfl ?_
  refine l_nil ?_
  refine q_then ?_
  refine c_ret ?_
  refine q_pass_ret ?_
  exact f_ret (r_one rfl rfl) (⟨none, 0, by rw [hnil]; rfl, rfl⟩) (by rw [hnil]; exact fun w S => S.own_nil)
 · -- h1F
  have h1b := h1
  try simp only [decide_eq_true_eq, decide_eq_false_iff_not, Bool.not_eq_eq_eq_not, Bool.not_true, Bool.not_false, Bool.not_eq_true', Bool.not_eq_false', Int.not_lt, Int.not_le, Bool.or_eq_true, Bool.and_eq_true] at h1
  refine c_skip ?_
  refine q_then ?_
  refine c_seq ?_
  refine c_region ?_
  refine o_lit e_ItB_ok rfl Try.underlying112 rfl rfl rfl (lit_ok rfl) ([] : List ItB) rfl rfl fun a5 => ?_
  refine o_move rfl rfl ?_
  refine o_append e_ItB_ok rfl rfl rfl Try.underlying112 (rds_c hs) (by show (_ + _) * 32 ≤ _; simp only [List.length_nil]; omega) (by simp only [List.length_nil]; omega) fun a7 c7 => ?_
  refine o_assign rfl rfl ?_
  refine l_nil ?_
  refine q_then ?_
  refine c_ret ?_
  exact f_ret (r_one rfl rfl) (⟨_, _, rfl, rfl⟩) (fun w S => by simpa using S)

theorem cloK_B {W : World} {F : List Res} {xs : List Nat} {a : Option Addr} {c : Nat} (hs : RdS W F eN111 a xs) (hn : xs.length ≤ 1000) : CS Try.prog 58 #[.slice a (xs).length c] W (F) (fun r L' => ∃ (a' : Option Addr) (c' : Nat), r = .slice a' xs.length c' ∧ L' = row eN111.T eN111.sz a' (xs).length c' (flat eN111 xs) :: F) := by
 refine f_door (l0 := [(0, .slice a (xs).length c)]) Try.func58 Try.ntmps58 rfl rfl rfl ?_
 refine c_seq ?_
 refine c_fact (rds_nilq hs) ?_
 intro hz
 refine c_region ?_
 refine o_assign rfl rfl ?_
 refine l_nil ?_
 refine q_then ?_
 refine c_seq ?_
 refine c_seq ?_
 refine c_region ?_
 refine o_move rfl rfl ?_
 refine o_bin rfl rfl rfl (b_sleq Try.underlying113 _ _ _) ?_
 refine l_nil ?_
 refine q_then ?_
 refine c_cond rfl (fun h1 => ?_) (fun h1 => ?_)
 · -- h1T
  have h1b := h1
  try simp only [decide_eq_true_eq, decide_eq_false_iff_not, Bool.not_eq_eq_eq_not, Bool.not_true, Bool.not_false, Bool.not_eq_true', Bool.not_eq_false', Int.not_lt, Int.not_le, Bool.or_eq_true, Bool.and_eq_true] at h1
  have hnil : xs = [] := hz (by simpa using h1)
  refine c_seq ?_
  refine c_region ?_
  refine o_assign rfl rfl ?_
  refine l_nil ?_
  refine q_then ?_
  refine c_ret ?_
  refine q_pass_ret ?_
  exact f_ret (r_one rfl rfl) (⟨none, 0, by rw [hnil]; rfl, rfl⟩) (by rw [hnil]; exact fun w S => S.own_nil)
 · -- h1F
  have h1b := h1
  try simp only [decide_eq_true_eq, decide_eq_false_iff_not, Bool.not_eq_eq_eq_not, Bool.not_true, Bool.not_false, Bool.not_eq_true', Bool.not_eq_false', Int.not_lt, Int.not_le, Bool.or_eq_true, Bool.and_eq_true] at h1
  refine c_skip ?_
  refine q_then ?_
  refine c_seq ?_
  refine c_region ?_
  refine o_lit eN111_ok rfl Try.underlying113 rfl rfl rfl (lit_ok rfl) ([] : List Nat) rfl rfl fun a5 => ?_
  refine o_move rfl rfl ?_
  refine o_append eN111_ok rfl rfl rfl Try.underlying113 (rds_c hs) (by show (_ + _) * 8 ≤ _; simp only [List.length_nil]; omega) (by simp only [List.length_nil]; omega) fun a7 c7 => ?_
  refine o_assign rfl rfl ?_
  refine l_nil ?_
  refine q_then ?_
  refine c_ret ?_
  exact f_ret (r_one rfl rfl) (⟨_, _, rfl, rfl⟩) (fun w S => by simpa using S)

end Go.Proofs.Ytakjmdeckngnlaa
