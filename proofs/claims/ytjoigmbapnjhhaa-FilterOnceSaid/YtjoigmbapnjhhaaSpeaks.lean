/- Printed by eng2.py out of 14/spec.py. -/
import Derived.Test.YtjoigmbapnjhhaaFilI
import Derived.Test.YtjoigmbapnjhhaaOGreat
import Derived.Test.YtjoigmbapnjhhaaRefF
set_option linter.unusedVariables false
set_option linter.unusedSimpArgs false
set_option maxRecDepth 10000
namespace Go.Proofs.Ytjoigmbapnjhhaa
open Go.RowKit Classical
theorem great_ {W : World} {F : List Res} {log : List Item} {a : Option Addr} {c : Nat} (hs : RdS W F e_Item a log) (ho : ∀ x ∈ log, OrdR W F x.ord) (hn : log.length ≤ 9223372036854775807) : CS Try.prog 9 #[.slice a log.length c] W (F) (fun r L' => ∃ g : Bool, (g = false → log.length ≤ 40 ∧ ∀ x ∈ log, OSmall x.ord) ∧ r = .bool g ∧ F = L') := by
 refine f_door (l0 := [(0, .slice a log.length c)]) Try.func9 Try.ntmps9 rfl rfl rfl ?_
 refine c_seq ?_
 refine c_region ?_
 refine o_assign rfl rfl ?_
 refine l_nil ?_
 refine q_then ?_
 refine c_seq ?_
 refine c_seq ?_
 refine c_region ?_
 refine o_move rfl rfl ?_
 refine o_len rfl rfl Try.underlying22 ?_
 refine o_bin rfl rfl rfl b_gtr ?_
 refine l_nil ?_
 refine q_then ?_
 refine c_cond rfl (fun h1 => ?_) (fun h1 => ?_)
 · -- h1T
  have h1b := h1
  try simp only [decide_eq_true_eq] at h1
  refine c_seq ?_
  refine c_region ?_
  refine o_assign rfl rfl ?_
  refine l_nil ?_
  refine q_then ?_
  refine c_ret ?_
  refine q_pass_ret ?_
  exact f_ret (r_one rfl rfl) (⟨true, fun h9 => absurd h9 (by decide), rfl, rfl⟩) (fun w S => S)
 · -- h1F
  have h1b := h1
  try simp only [decide_eq_false_iff_not, Int.not_lt, Int.not_le] at h1
  refine c_skip ?_
  refine q_then ?_
  refine c_seq ?_
  refine c_seq ?_
  refine c_region ?_
  refine o_move rfl rfl ?_
  refine o_len rfl rfl Try.underlying22 ?_
  refine o_move rfl rfl ?_
  refine l_nil ?_
  refine q_then ?_
  refine c_block ?_
  refine c_loop (α := Nat) (fun z => [(8, .slice a (log).length c), (9, .int .i64 ((log).length : Int)), (10, .int .i64 (z : Int))]) (fun z => F) (fun z => z ≤ log.length ∧ UpTo (fun x : Item => OSmall x.ord) log z) (fun z => log.length - z) (0) (by exact ⟨Nat.zero_le _, upTo_0⟩) ⟨(by first | rfl | exact vint (by omega)), (by first | rfl | exact vint (by omega)), (by first | rfl | exact vint (by omega)), trivial⟩ (fun w S => S) ?_
  rintro i ⟨hi, ht⟩
  try dsimp only at *
  refine c_seq ?_
  refine c_region ?_
  refine o_bin rfl rfl rfl b_lss ?_
  refine l_nil ?_
  refine q_then ?_
  refine c_seq ?_
  refine c_cond rfl (fun h2 => ?_) (fun h2 => ?_)
  · -- h2T
   have h2b := h2
   try simp only [decide_eq_true_eq] at h2
   refine c_skip ?_
   refine q_then ?_
   refine c_seq ?_
   refine c_block ?_
   refine c_seq ?_
   refine c_region ?_
   refine o_index e_Item_ok rfl rfl rfl Try.underlying22 (by omega) (by omega) hs fun ad12 ead12 => ?_
   obtain ⟨x12, hx12⟩ : ∃ x, (log)[((i : Int)).toNat]? = some x := ⟨_, List.getElem?_eq_getElem (by omega)⟩
   refine o_loadn (vs := e_Item.cells x12) rfl rfl Try.underlying41 rfl ti41 (rdn_sl e_Item_ok ead12 hs hx12) ?_
   refine o_alloc rfl ti41 fun b4 => ?_
   refine o_storen rfl rfl ti41 rfl rfl rfl rfl ?_
   refine l_nil ?_
   refine q_then ?_
   refine c_seq ?_
   refine c_region ?_
   refine o_fieldAddr (q := ⟨b4, 2, none⟩) rfl rfl Try.underlying41 rfl ti39 rfl ?_
   refine o_loadn (vs := [_, _, _, _, _, _, _, _, _, _]) rfl rfl Try.underlying39 rfl ti39 (rdn_lit 0 rfl rfl) ?_
   refine o_call rfl cal17 rfl (rgreat_ (o := x12.ord) (OrdR.c (ho x12 (List.mem_of_getElem? hx12)))) ?_
   rintro _ _ ⟨g16, hg16, rfl, rfl⟩
   refine l_nil ?_
   refine q_then ?_
   refine c_cond rfl (fun h3 => ?_) (fun h3 => ?_)
   · -- h3T
    have h3b := h3
    try simp only [decide_eq_true_eq, decide_eq_false_iff_not, Bool.not_eq_eq_eq_not, Bool.not_true, Bool.not_false, Bool.not_eq_true', Bool.not_eq_false', Int.not_lt, Int.not_le, Bool.or_eq_true, Bool.and_eq_true] at h3
    refine c_seq ?_
    refine c_region ?_
    refine o_assign rfl rfl ?_
    refine l_nil ?_
    refine q_then ?_
    refine c_ret ?_
    refine q_block_ret ?_
    refine q_pass_ret ?_
    refine q_pass_ret ?_
    refine q_block_ret ?_
    refine q_pass_ret ?_
    refine q_conv (fun w S => S.tail) ?_
    exact f_ret (r_one rfl rfl) (⟨true, fun h9 => absurd h9 (by decide), rfl, rfl⟩) (fun w S => S)
   · -- h3F
    have h3b := h3
    try simp only [decide_eq_true_eq, decide_eq_false_iff_not, Bool.not_eq_eq_eq_not, Bool.not_true, Bool.not_false, Bool.not_eq_true', Bool.not_eq_false', Int.not_lt, Int.not_le, Bool.or_eq_true, Bool.and_eq_true] at h3
    refine c_skip ?_
    refine q_block ?_
    refine q_then ?_
    refine c_region ?_
    refine o_bin rfl rfl rfl (b_add (wrap_i64 (by omega) (by omega))) ?_
    refine o_move rfl rfl ?_
    refine l_nil ?_
    refine q_conv (fun w S => S.tail) ?_
    exact q_round (i + 1) (by exact ⟨by omega, upTo_on ht hx12 (hg16 h3)⟩) (by (try dsimp only); omega) ⟨(by first | rfl | exact vint (by omega)), (by first | rfl | exact vint (by omega)), (by first | rfl | exact vint (by omega)), trivial⟩ (fun w S => S)
  · -- h2F
   have h2b := h2
   try simp only [decide_eq_false_iff_not, Int.not_lt, Int.not_le] at h2
   refine c_exit ?_
   refine q_pass_exit ?_
   refine q_pass_exit ?_
   refine q_hit ?_
   refine q_then ?_
   refine c_seq ?_
   refine c_region ?_
   refine o_assign rfl rfl ?_
   refine l_nil ?_
   refine q_then ?_
   refine c_ret ?_
   exact f_ret (r_one rfl rfl) (⟨false, fun _ => ⟨by omega, upTo_all ht (by omega)⟩, rfl, rfl⟩) (fun w S => S)

abbrev it1 (h : Int) (a : Option Addr) : Item := ⟨1, 0, 0, 0, 0, 0, 1, ⟨none, [], 0⟩, ⟨none, [], 0⟩, ⟨none, [], 0⟩, 0, ⟨a, [⟨ByteArray.empty, h, 0⟩], 1⟩⟩
theorem it1_homes (h : Int) (a : Option Addr) : homes (it1 h a).ord = [h] := by rw [homes_ne (by simp)]; rfl
theorem it1_single (h : Int) (a : Option Addr) : single (it1 h a).ord := ⟨rfl, by rw [it1_homes]; rfl⟩
theorem it1_run (g h : Int) (a : Option Addr) : RunOk g (it1 h a) ↔ g = h := by
  unfold RunOk
  rw [it1_homes]
  exact ⟨fun h => by simpa using h.2.1, fun h1 => ⟨rfl, by simp [h1], it1_single h a⟩⟩
theorem it1_piece (g h : Int) (a : Option Addr) : ¬ PieceOk g (it1 h a) := fun h1 => by have := h1.1; simp at this
section
variable (a b : Option Addr)
theorem sp_vw1 : ((⟨1, -1, []⟩ : FS).item (it1 1 a)).1 = true ∧ Vw ((⟨1, -1, []⟩ : FS).item (it1 1 a)).2 1 (-1) (fun t => if (it1 1 a).ord.tag = t then 1 else 0) := by
  obtain ⟨h1, h2⟩ := item_vw (Vw.new 1) (it1 1 a) (fun t => by omega)
  refine ⟨by rw [h1]; simp [it1_run], h2.region, by rw [h2.last]; unfold lastOn; rw [if_neg (fun h => it1_piece _ _ _ h.1)], fun t => ?_⟩
  rw [h2.cnt, it1_run]; simp
theorem sp_vw2 : (((⟨1, -1, []⟩ : FS).item (it1 1 a)).2.item (it1 1 a)).1 = false ∧ ∃ n, (∀ t, n t ≤ 1000000) ∧ Vw (((⟨1, -1, []⟩ : FS).item (it1 1 a)).2.item (it1 1 a)).2 1 (-1) n := by
  obtain ⟨h1, h2⟩ := item_vw (sp_vw1 a).2 (it1 1 a) (fun t => by split <;> omega)
  refine ⟨by rw [h1]; simp [it1_piece], _, ?_, h2.region, by rw [h2.last]; unfold lastOn; rw [if_neg (fun h => it1_piece _ _ _ h.1)], h2.cnt⟩
  intro t; split <;> split <;> omega
theorem sp_vw3 : ((((⟨1, -1, []⟩ : FS).item (it1 1 a)).2.item (it1 1 a)).2.item (it1 2 b)).1 = false ∧ ((((⟨1, -1, []⟩ : FS).item (it1 1 a)).2.item (it1 1 a)).2.item (it1 2 b)).2.last = -1 := by
  obtain ⟨_, n, hn, h⟩ := sp_vw2 a
  obtain ⟨h1, h2⟩ := item_vw h (it1 2 b) hn
  refine ⟨by rw [h1]; simp [it1_run, it1_piece], ?_⟩
  rw [h2.last]; unfold lastOn; rw [if_neg (fun h => it1_piece _ _ _ h.1)]
end
set_option maxHeartbeats 1000000 in
theorem speaks_ {W : World} {F : List Res} : CS Try.prog 8 #[] W (F) (fun r L' => r = .bool true ∧ F = L') := by
 refine f_door (l0 := []) Try.func8 Try.ntmps8 rfl rfl rfl ?_
 refine c_seq ?_
 refine c_region ?_
 refine o_assign rfl rfl ?_
 refine l_nil ?_
 refine q_then ?_
 refine c_seq ?_
 refine c_region ?_
 refine o_call rfl cal10 rfl (region_ (g := 1)) ?_
 rintro _ _ ⟨b4, rfl, rfl⟩
 refine o_assign rfl rfl ?_
 refine l_nil ?_
 refine q_then ?_
 refine c_seq ?_
 refine c_seq ?_
 refine c_region ?_
 refine o_move rfl rfl ?_
 refine o_bin rfl rfl rfl (b_peq Try.underlying25 _) ?_
 refine l_nil ?_
 refine q_then ?_
 refine c_false rfl ?_
 refine c_skip ?_
 refine q_then ?_
 refine c_seq ?_
 refine c_region ?_
 refine o_build rfl sp36 ti36 rfl ((fill_cons (cells' := [.int .i64 1, .slice none 0 0, .slice none 0 0, .slice none 0 0, .int .i64 0]) rfl rfl rfl rfl fill_nil)) ?_
 refine o_build rfl sp61 ti61 rfl ((fill_cons (cells' := [.string ByteArray.empty, .int .i64 1, .int .u64 0]) rfl rfl rfl rfl fill_nil)) ?_
 refine o_lit e_Mark_ok rfl Try.underlying37 rfl rfl rfl (lit_ok rfl) [⟨ByteArray.empty, 1, 0⟩] rfl rfl fun a9 => ?_
 refine o_build rfl sp39 ti39 rfl ((fill_cons (cells' := [.int .i64 0, .int .u64 0, .int .u64 0, .int .i64 0, .int .i64 1, .slice none 0 0, .slice none 0 0, .slice none 0 0, .int .i64 0, .slice none 0 0]) rfl rfl rfl rfl (fill_cons (cells' := [.int .i64 0, .int .u64 0, .int .u64 0, .int .i64 0, .int .i64 1, .slice none 0 0, .slice none 0 0, .slice none 0 0, .int .i64 0, .slice a9 ([⟨ByteArray.empty, 1, 0⟩]).length 1]) rfl rfl rfl rfl fill_nil))) ?_
 refine o_build rfl sp41 ti41 rfl ((fill_cons (cells' := [.int .i64 1, .int .i64 0, .int .i64 0, .int .u64 0, .int .u64 0, .int .i64 0, .int .i64 0, .slice none 0 0, .slice none 0 0, .slice none 0 0, .int .i64 0, .slice none 0 0]) rfl rfl rfl rfl (fill_cons (cells' := [.int .i64 1, .int .i64 0, .int .i64 0, .int .u64 0, .int .u64 0, .int .i64 0, .int .i64 1, .slice none 0 0, .slice none 0 0, .slice none 0 0, .int .i64 0, .slice a9 ([⟨ByteArray.empty, 1, 0⟩]).length 1]) rfl rfl rfl rfl fill_nil))) ?_
 refine o_alloc rfl ti41 fun b2 => ?_
 refine o_storen rfl rfl ti41 rfl rfl rfl rfl ?_
 refine l_nil ?_
 refine q_then ?_
 refine c_seq ?_
 refine c_region ?_
 refine o_build rfl sp36 ti36 rfl ((fill_cons (cells' := [.int .i64 1, .slice none 0 0, .slice none 0 0, .slice none 0 0, .int .i64 0]) rfl rfl rfl rfl fill_nil)) ?_
 refine o_build rfl sp61 ti61 rfl ((fill_cons (cells' := [.string ByteArray.empty, .int .i64 2, .int .u64 0]) rfl rfl rfl rfl fill_nil)) ?_
 refine o_lit e_Mark_ok rfl Try.underlying37 rfl rfl rfl (lit_ok rfl) [⟨ByteArray.empty, 2, 0⟩] rfl rfl fun a14 => ?_
 refine o_build rfl sp39 ti39 rfl ((fill_cons (cells' := [.int .i64 0, .int .u64 0, .int .u64 0, .int .i64 0, .int .i64 1, .slice none 0 0, .slice none 0 0, .slice none 0 0, .int .i64 0, .slice none 0 0]) rfl rfl rfl rfl (fill_cons (cells' := [.int .i64 0, .int .u64 0, .int .u64 0, .int .i64 0, .int .i64 1, .slice none 0 0, .slice none 0 0, .slice none 0 0, .int .i64 0, .slice a14 ([⟨ByteArray.empty, 2, 0⟩]).length 1]) rfl rfl rfl rfl fill_nil))) ?_
 refine o_build rfl sp41 ti41 rfl ((fill_cons (cells' := [.int .i64 1, .int .i64 0, .int .i64 0, .int .u64 0, .int .u64 0, .int .i64 0, .int .i64 0, .slice none 0 0, .slice none 0 0, .slice none 0 0, .int .i64 0, .slice none 0 0]) rfl rfl rfl rfl (fill_cons (cells' := [.int .i64 1, .int .i64 0, .int .i64 0, .int .u64 0, .int .u64 0, .int .i64 0, .int .i64 1, .slice none 0 0, .slice none 0 0, .slice none 0 0, .int .i64 0, .slice a14 ([⟨ByteArray.empty, 2, 0⟩]).length 1]) rfl rfl rfl rfl fill_nil))) ?_
 refine o_alloc rfl ti41 fun b3 => ?_
 refine o_storen rfl rfl ti41 rfl rfl rfl rfl ?_
 refine l_nil ?_
 refine q_then ?_
 refine c_seq ?_
 refine c_region ?_
 refine o_move rfl rfl ?_
 refine o_loadn (vs := [_, _, _, _, _, _, _, _, _, _, _, _]) rfl rfl Try.underlying41 rfl ti41 (rdn_lit 2 rfl rfl) ?_
 refine l_f4 ?_
 refine o_call rfl cal11 rfl (fitem_ (x := (⟨1, 0, 0, 0, 0, 0, 1, ⟨none, [], 0⟩, ⟨none, [], 0⟩, ⟨none, [], 0⟩, 0, ⟨a9, [⟨ByteArray.empty, 1, 0⟩], 1⟩⟩ : Item)) (OrdR.mk (o := (⟨0, 0, 0, 0, 1, ⟨none, [], 0⟩, ⟨none, [], 0⟩, ⟨none, [], 0⟩, 0, ⟨a9, [⟨ByteArray.empty, 1, 0⟩], 1⟩⟩ : Order)) (rds_own e_Mark_ok 3 rfl) (rds_nil _ _) (rds_nil _ _) (rds_nil _ _) (fun x hx => by cases hx) (by simp) (by simp) (by simp) (by simp) (fun x hx => by cases hx)) (by simp)) ?_
 rintro _ _ ⟨rfl, rfl⟩
 refine l_eq (t := 19) (v' := .bool true) rfl (show _ = Value.bool true from by exact congrArg Value.bool (sp_vw1 _).1) ?_
 refine o_move rfl rfl ?_
 refine o_yes rfl rfl rfl ?_
 refine o_move rfl rfl ?_
 refine o_yes rfl rfl rfl ?_
 refine o_loadn (vs := [_, _, _, _, _, _, _, _, _, _, _, _]) rfl rfl Try.underlying41 rfl ti41 (rdn_lit 3 rfl rfl) ?_
 refine o_yes rfl rfl rfl ?_
 refine o_call rfl cal11 rfl (fitem_ (x := (⟨1, 0, 0, 0, 0, 0, 1, ⟨none, [], 0⟩, ⟨none, [], 0⟩, ⟨none, [], 0⟩, 0, ⟨a9, [⟨ByteArray.empty, 1, 0⟩], 1⟩⟩ : Item)) (OrdR.mk (o := (⟨0, 0, 0, 0, 1, ⟨none, [], 0⟩, ⟨none, [], 0⟩, ⟨none, [], 0⟩, 0, ⟨a9, [⟨ByteArray.empty, 1, 0⟩], 1⟩⟩ : Order)) (rds_own e_Mark_ok 3 rfl) (rds_nil _ _) (rds_nil _ _) (rds_nil _ _) (fun x hx => by cases hx) (by simp) (by simp) (by simp) (by simp) (fun x hx => by cases hx)) (by simp)) ?_
 rintro _ _ ⟨rfl, rfl⟩
 refine o_yes rfl rfl rfl ?_
 refine o_not rfl rfl ?_
 refine l_eq (t := 24) (v' := .bool true) rfl (show _ = Value.bool true from by exact congrArg (fun b => Value.bool (!b)) (sp_vw2 _).1) ?_
 refine o_pick_true rfl rfl rfl ?_
 refine o_move rfl rfl ?_
 refine o_yes rfl rfl rfl ?_
 refine o_move rfl rfl ?_
 refine o_yes rfl rfl rfl ?_
 refine o_loadn (vs := [_, _, _, _, _, _, _, _, _, _, _, _]) rfl rfl Try.underlying41 rfl ti41 (rdn_lit 1 rfl rfl) ?_
 refine o_yes rfl rfl rfl ?_
 refine o_call rfl cal11 rfl (fitem_ (x := (⟨1, 0, 0, 0, 0, 0, 1, ⟨none, [], 0⟩, ⟨none, [], 0⟩, ⟨none, [], 0⟩, 0, ⟨a14, [⟨ByteArray.empty, 2, 0⟩], 1⟩⟩ : Item)) (OrdR.mk (o := (⟨0, 0, 0, 0, 1, ⟨none, [], 0⟩, ⟨none, [], 0⟩, ⟨none, [], 0⟩, 0, ⟨a14, [⟨ByteArray.empty, 2, 0⟩], 1⟩⟩ : Order)) (rds_own e_Mark_ok 1 rfl) (rds_nil _ _) (rds_nil _ _) (rds_nil _ _) (fun x hx => by cases hx) (by simp) (by simp) (by simp) (by simp) (fun x hx => by cases hx)) (by simp)) ?_
 rintro _ _ ⟨rfl, rfl⟩
 refine o_yes rfl rfl rfl ?_
 refine o_not rfl rfl ?_
 refine l_eq (t := 30) (v' := .bool true) rfl (show _ = Value.bool true from by exact congrArg (fun b => Value.bool (!b)) (sp_vw3 _ _).1) ?_
 refine o_pick_true rfl rfl rfl ?_
 refine o_move rfl rfl ?_
 refine o_yes rfl rfl rfl ?_
 refine o_move rfl rfl ?_
 refine o_yes rfl rfl rfl ?_
 refine o_call rfl cal12 rfl (flast_) ?_
 rintro _ _ ⟨rfl, rfl⟩
 refine o_yes rfl rfl rfl ?_
 refine o_bin rfl rfl rfl b_eql ?_
 refine l_eq (t := 35) (v' := .bool true) rfl (show _ = Value.bool true from by rw [decide_eq_true (sp_vw3 _ _).2]) ?_
 refine o_pick_true rfl rfl rfl ?_
 refine o_assign rfl rfl ?_
 refine l_nil ?_
 refine q_then ?_
 refine c_ret ?_
 refine q_conv (fun w S => S.tail) ?_
 refine q_conv (fun w S => S.tail) ?_
 refine q_conv (fun w S => S.tail) ?_
 refine q_conv (fun w S => S.tail) ?_
 refine q_conv (fun w S => S.tail) ?_
 exact f_ret (r_one rfl rfl) (⟨rfl, rfl⟩) (fun w S => S)

end Go.Proofs.Ytjoigmbapnjhhaa
