/- Printed by eng2.py out of 15/spec.py. -/
import Derived.Test.YteehongibjkjlaaBits
import Derived.Test.YteehongibjkjlaaSpeaks
import Derived.Test.YteehongibjkjlaaGLog
import Derived.Test.YteehongibjkjlaaISame
import Derived.Test.YteehongibjkjlaaNext
import Derived.Test.YteehongibjkjlaaFilI
import Derived.Test.YteehongibjkjlaaSordp
set_option linter.unusedVariables false
set_option linter.unusedSimpArgs false
set_option maxRecDepth 10000
namespace Go.Proofs.Yteehongibjkjlaa
open Go.RowKit Classical

theorem firstG_take {log : List Order} {k i : Nat} (hi : i < k) : FirstG (log.take k) i ↔ FirstG log i := by
  constructor
  · rintro ⟨o, h1, h2, h3⟩
    exact ⟨o, (tk_get.1 h1).2, h2, fun j y hj hy => h3 j y hj (tk_get.2 ⟨by omega, hy⟩)⟩
  · rintro ⟨o, h1, h2, h3⟩
    exact ⟨o, tk_get.2 ⟨hi, h1⟩, h2, fun j y hj hy => h3 j y hj (tk_get.1 hy).2⟩
theorem pcOk_take {g : Int} {log : List Order} {k i : Nat} (hi : i < k) : PcOk g (log.take k) i ↔ PcOk g log i := by
  unfold PcOk
  rw [firstG_take hi]
  constructor
  · rintro ⟨h, o, h1, h2⟩; exact ⟨h, o, (tk_get.1 h1).2, h2⟩
  · rintro ⟨h, o, h1, h2⟩; exact ⟨h, o, tk_get.2 ⟨hi, h1⟩, h2⟩
theorem idx_take {g : Int} {log : List Order} {k : Nat} : idx g (log.take k) k = idx g log k := by
  unfold idx
  refine List.filter_congr fun i hi => ?_
  rw [decide_eq_decide]
  exact pcOk_take (List.mem_range.1 hi)
theorem idx_pre (g : Int) (log : List Order) (k m : Nat) : ∃ t, idx g log (k + m) = idx g log k ++ t := by
  induction m with
  | zero => exact ⟨[], by simp⟩
  | succ m ih =>
    obtain ⟨t, ht⟩ := ih
    rw [show k + (m + 1) = (k + m) + 1 by omega, idx_succ, ht]
    split
    · exact ⟨t ++ [k + m], by rw [List.append_assoc]⟩
    · exact ⟨t, rfl⟩
/-- What is known of the pieces of the log's first k orders and of all. -/
structure GoOn (g : Int) (log : List Order) (k : Nat) (ps qs : List Item) : Prop where
  le : k ≤ log.length
  a : PcsOf g (log.take k) k ps
  b : PcsOf g log log.length qs
section
variable {g : Int} {log : List Order} {k : Nat} {ps qs : List Item}
theorem goOn_mk (le : k ≤ log.length) {l : List Order} (e : l = log.take k) (h : PcsOf g l l.length ps) (hb : PcsOf g log log.length qs) : GoOn g log k ps qs := by
  subst e
  rw [List.length_take, Nat.min_eq_left le] at h
  exact ⟨le, h, hb⟩
theorem GoOn.pre (h : GoOn g log k ps qs) : ∃ t, idx g log log.length = idx g (log.take k) k ++ t := by
  obtain ⟨t, ht⟩ := idx_pre g log k (log.length - k)
  exact ⟨t, by rw [idx_take, ← ht, show k + (log.length - k) = log.length from by have := h.le; omega]⟩
theorem GoOn.len (h : GoOn g log k ps qs) : ps.length ≤ qs.length := by
  obtain ⟨t, ht⟩ := h.pre
  rw [h.a.len, h.b.len, ht, List.length_append]; omega
theorem GoOn.same (h : GoOn g log k ps qs) : SameIs ps (sub qs 0 ps.length) := by
  have hl := h.len
  refine ⟨by rw [sub_len hl]; rfl, fun i x y hx hy => ?_⟩
  obtain ⟨t, ht⟩ := h.pre
  obtain ⟨j, hj, ⟨p1, p2, o, p3, p4⟩, _, _⟩ := h.a.mem hx
  have hy' : qs[i]? = some y := by
    unfold sub at hy
    rw [List.drop_zero] at hy
    exact (tk_get.1 hy).2
  refine pcAt_same ⟨p1, p2, o, (tk_get.1 p3).2, p4⟩ (h.b.pl i y j hy' ?_)
  rw [ht, List.getElem?_append_left (List.getElem?_eq_some_iff.1 hj).1]; exact hj
theorem b_at (hb : PcsOf g log log.length qs) {i : Nat} {y : Item} (hy : qs[i]? = some y) : ∃ j : Nat, (idx g log log.length)[i]? = some j ∧ y.f_Index = (j : Int) := by
  obtain ⟨j, h1, h2, _, _⟩ := hb.mem hy
  exact ⟨j, h1, h2.2.1⟩
/-- l is the place of the last piece of the log's first k orders. -/
def LastIs (ps : List Item) (l : Int) : Prop := (ps = [] ∧ l = -1) ∨ ∃ x, ps[ps.length - 1]? = some x ∧ ps ≠ [] ∧ l = x.f_Index
theorem GoOn.cut (h : GoOn g log k ps qs) {l : Int} (hl : LastIs ps l) : (∀ (i : Nat) y, i < ps.length → qs[i]? = some y → y.f_Index ≤ l) ∧ ∀ (i : Nat) y, ps.length ≤ i → qs[i]? = some y → l < y.f_Index := by
  have hs := List.pairwise_iff_getElem.1 (idx_srt g log log.length)
  rcases hl with ⟨h1, h2⟩ | ⟨x, h1, h2, h3⟩
  · refine ⟨fun i y hi _ => by rw [h1] at hi; simp at hi, fun i y _ hy => ?_⟩
    obtain ⟨j, _, e⟩ := b_at h.b hy
    omega
  · have hp : 0 < ps.length := List.length_pos_iff.2 h2
    obtain ⟨m, hm, ⟨_, e, _⟩, _, _⟩ := h.a.mem h1
    obtain ⟨t, ht⟩ := h.pre
    have hm' : (idx g log log.length)[ps.length - 1]? = some m := by
      rw [ht, List.getElem?_append_left (List.getElem?_eq_some_iff.1 hm).1]; exact hm
    obtain ⟨q, em⟩ := List.getElem?_eq_some_iff.1 hm'
    refine ⟨fun i y hi hy => ?_, fun i y hi hy => ?_⟩ <;> obtain ⟨j, hj, ej⟩ := b_at h.b hy <;> obtain ⟨q', ej'⟩ := List.getElem?_eq_some_iff.1 hj
    · by_cases hii : i = ps.length - 1
      · subst hii; rw [hj] at hm'; cases hm'; omega
      · have := hs i (ps.length - 1) q' q (by omega); omega
    · have := hs (ps.length - 1) i q q' (by omega); omega
theorem GoOn.nx (h : GoOn g log k ps qs) {l : Int} (hl : LastIs ps l) {b : Bool} {y : Item} (hn : (b = true ∧ NextIs g log l y) ∨ (b = false ∧ y = zItem ∧ NoNext g log l)) : b = decide (ps.length < qs.length) ∧ (b = true → SameIs [y] (sub qs ps.length (ps.length + 1))) := by
  obtain ⟨c1, c2⟩ := h.cut hl
  have hle := h.len
  by_cases hlt : ps.length < qs.length
  · have hx := List.getElem?_eq_getElem hlt
    have hni := next_is (Nat.le_refl _) h.b hx c1 (c2 _ _ (Nat.le_refl _) hx)
    rcases hn with ⟨h1, h2⟩ | ⟨_, _, h2⟩
    · refine ⟨by rw [h1, decide_eq_true hlt], fun _ => ?_⟩
      have hse : sub qs ps.length (ps.length + 1) = [qs[ps.length]] := by
        refine List.ext_getElem (by rw [sub_len (by omega)]; simp) fun i q1 q2 => ?_
        obtain rfl : i = 0 := by simp at q2; omega
        simp [sub]
      rw [hse]
      refine ⟨rfl, fun i a c ha hc => ?_⟩
      obtain rfl : i = 0 := by have := (List.getElem?_eq_some_iff.1 ha).1; simp at this; omega
      simp at ha hc
      subst ha; subst hc
      exact next_uniq h2 hni
    · exact absurd h2 (next_not hni)
  · have hno : NoNext g log l := no_next h.b fun y hy => by
      obtain ⟨i, hi, e⟩ := List.mem_iff_getElem.1 hy
      exact c1 i y (by omega) (by rw [List.getElem?_eq_getElem hi, e])
    rcases hn with ⟨h1, h2⟩ | ⟨h1, _, _⟩
    · exact absurd hno (next_not h2)
    · exact ⟨by rw [h1, decide_eq_false hlt], fun h9 => by rw [h1] at h9; cases h9⟩
/-- The filter lets a piece pass. -/
theorem flt_on {s : FS} {l : Int} {i : Nat} {x : Item} (hb : PcsOf g log log.length qs) (h : Vw s g l (fun _ => 0)) (hl : LastK g log i l) (hx : qs[((i : Int)).toNat]? = some x) : (s.item x).1 = true ∧ Vw (s.item x).2 g x.f_Index (fun _ => 0) ∧ LastK g log (i + 1) x.f_Index := by
  have hx' : qs[i]? = some x := hx
  obtain ⟨j, hj, ⟨p1, p2, o, p3, p4⟩, _, ⟨o2, q1, q2, _⟩, o', q3, q4⟩ := hb.mem hx'
  rw [p3] at q1 q3; cases q1; cases q3
  have hp : PieceOk g x := ⟨p1, by rw [homes_same p4]; exact q4, fun h9 => q2 ((single_same p4).1 h9)⟩
  have hlt : l < x.f_Index := by rw [p2]; exact hl i j (Nat.le_refl _) hj
  have hr : ¬ RunOk g x := fun h9 => by have := h9.1; omega
  obtain ⟨e1, e2⟩ := item_vw h x (fun _ => by omega)
  refine ⟨by rw [e1, decide_eq_true_eq]; exact .inr ⟨hp, hlt⟩, ?_, by rw [p2]; exact last_on hj⟩
  have e3 : lastOn g l x = x.f_Index := if_pos ⟨hp, hlt⟩
  rw [e3] at e2
  exact ⟨e2.region, e2.last, fun t => by rw [e2.cnt, if_neg (fun h9 => hr h9.1)]⟩
theorem pc_marks (hb : PcsOf g log log.length qs) (hsm : ∀ x ∈ log, OSmall x) {i : Nat} {x : Item} (hx : qs[((i : Int)).toNat]? = some x) : x.ord.f_Marks.xs.length ≤ 1000000 := by
  have hx' : qs[i]? = some x := hx
  obtain ⟨j, hj, ⟨p1, p2, o, p3, p4⟩, _, _⟩ := hb.mem hx'
  have := (hsm o (List.mem_of_getElem? p3)).m
  rw [p4.2.2]; omega
end
theorem rem_k (q n : Nat) : ∃ k : Nat, k ≤ n ∧ Int.tmod (q : Int) ((n : Int) + 1) = (k : Int) := ⟨q % (n + 1), Nat.le_of_lt_succ (Nat.mod_lt _ (by omega)), rfl⟩

set_option maxHeartbeats 4000000 in
theorem goesL_ {W : World} {F : List Res} {n g : Int} {log : List Order} {a : Option Addr} {c : Nat} (hs : SlR W e_Order a log) (ho : ∀ x ∈ log, ∀ L, OrdR W L x) (hc : log.length ≤ c ∧ c ≤ 9223372036854775807) : CS Try.prog 6 #[.slice a log.length c, .int .i64 n, .int .i64 g] W (F) (fun r L' => r = .bool true ∧ F = L') := by
 refine f_door (l0 := [(0, .slice a log.length c), (1, .int .i64 n), (2, .int .i64 g)]) Try.func6 Try.ntmps6 rfl rfl rfl ?_
 refine c_seq ?_
 refine c_region ?_
 refine o_assign rfl rfl ?_
 refine l_nil ?_
 refine q_then ?_
 refine c_seq ?_
 refine c_seq ?_
 refine c_region ?_
 refine o_call rfl cal7 rfl (speaks_) ?_
 rintro _ _ ⟨rfl, rfl⟩
 refine o_not rfl rfl ?_
 refine l_nil ?_
 refine q_then ?_
 refine c_false rfl ?_
 refine c_skip ?_
 refine q_then ?_
 refine c_seq ?_
 refine c_seq ?_
 refine c_region ?_
 refine o_move rfl rfl ?_
 refine o_call rfl cal8 rfl (glog_ (rds_old hs) (fun x hx => ho x hx _) (by omega)) ?_
 rintro _ _ ⟨g19, hg19, rfl, rfl⟩
 refine o_move rfl rfl ?_
 refine l_split (t := 20) rfl (fun h1 => ?_) (fun h1 => ?_)
 · -- h1T
  have h1b := h1
  try simp only [decide_eq_true_eq, decide_eq_false_iff_not, Bool.not_eq_eq_eq_not, Bool.not_true, Bool.not_false, Bool.not_eq_true', Bool.not_eq_false', Int.not_lt, Int.not_le, Bool.or_eq_true, Bool.and_eq_true] at h1
  refine o_no rfl rfl rfl rfl ?_
  refine o_no rfl rfl rfl rfl ?_
  refine o_pick_true rfl rfl rfl ?_
  refine o_move rfl rfl ?_
  refine o_no rfl rfl rfl rfl ?_
  refine o_no rfl rfl rfl rfl ?_
  refine o_pick_true rfl rfl rfl ?_
  refine l_nil ?_
  refine q_then ?_
  refine c_true rfl ?_
  refine c_seq ?_
  refine c_region ?_
  refine o_assign rfl rfl ?_
  refine l_nil ?_
  refine q_then ?_
  refine c_ret ?_
  refine q_pass_ret ?_
  exact f_ret (r_one rfl rfl) (⟨rfl, rfl⟩) (fun w S => S)
 · -- h1F
  have h1b := h1
  try simp only [decide_eq_true_eq, decide_eq_false_iff_not, Bool.not_eq_eq_eq_not, Bool.not_true, Bool.not_false, Bool.not_eq_true', Bool.not_eq_false', Int.not_lt, Int.not_le, Bool.or_eq_true, Bool.and_eq_true] at h1
  refine o_yes rfl rfl rfl ?_
  refine o_move rfl rfl ?_
  refine o_yes rfl rfl rfl ?_
  refine o_bin rfl rfl rfl b_lss ?_
  refine o_pick_false rfl rfl rfl ?_
  refine o_move rfl rfl ?_
  refine l_split (t := 24) rfl (fun h2 => ?_) (fun h2 => ?_)
  · -- h2T
   have h2b := h2
   try simp only [decide_eq_true_eq] at h2
   refine o_no rfl rfl rfl rfl ?_
   refine o_no rfl rfl rfl rfl ?_
   refine o_pick_true rfl rfl rfl ?_
   refine l_nil ?_
   refine q_then ?_
   refine c_true rfl ?_
   refine c_seq ?_
   refine c_region ?_
   refine o_assign rfl rfl ?_
   refine l_nil ?_
   refine q_then ?_
   refine c_ret ?_
   refine q_pass_ret ?_
   exact f_ret (r_one rfl rfl) (⟨rfl, rfl⟩) (fun w S => S)
  · -- h2F
   have h2b := h2
   try simp only [decide_eq_false_iff_not, Int.not_lt, Int.not_le] at h2
   refine o_yes rfl rfl rfl ?_
   refine o_move rfl rfl ?_
   refine o_yes rfl rfl rfl ?_
   refine o_bin rfl rfl rfl b_gtr ?_
   refine o_pick_false rfl rfl rfl ?_
   refine l_nil ?_
   refine q_then ?_
   refine c_cond rfl (fun h3 => ?_) (fun h3 => ?_)
   · -- h3T
    have h3b := h3
    try simp only [decide_eq_true_eq] at h3
    refine c_seq ?_
    refine c_region ?_
    refine o_assign rfl rfl ?_
    refine l_nil ?_
    refine q_then ?_
    refine c_ret ?_
    refine q_pass_ret ?_
    exact f_ret (r_one rfl rfl) (⟨rfl, rfl⟩) (fun w S => S)
   · -- h3F
    have h3b := h3
    try simp only [decide_eq_false_iff_not, Int.not_lt, Int.not_le] at h3
    refine c_skip ?_
    refine q_then ?_
    refine c_seq ?_
    have hgr := hg19 (by assumption)
    have hsm := hgr.2
    have hl : log.length ≤ 40 := by have := hgr.1; omega
    refine c_region ?_
    refine o_move rfl rfl ?_
    refine o_bin rfl rfl rfl (b_and rfl) ?_
    obtain ⟨q29, hq29, eq29⟩ := band64 n 1023 (by omega)
    refine l_eq (t := 29) (v' := .int .i64 (q29 : Int)) rfl (by first | exact congrArg _ eq29) ?_
    refine o_move rfl rfl ?_
    refine o_len rfl rfl Try.underlying22 ?_
    refine o_bin rfl rfl rfl (b_add (wrap_i64 (by omega) (by omega))) ?_
    refine o_bin rfl rfl rfl (b_rem (by omega) rfl) ?_
    obtain ⟨k, hk, ek⟩ := rem_k q29 log.length
    refine l_eq (t := 33) (v' := .int .i64 (k : Int)) rfl (by exact congrArg _ ek) ?_
    refine o_assign rfl rfl ?_
    refine l_nil ?_
    refine q_then ?_
    refine c_seq ?_
    refine c_region ?_
    refine o_move rfl rfl ?_
    refine o_move rfl rfl ?_
    refine o_cut (l' := 0) (h' := k) (m := c) rfl rfl Try.underlying22 ti40 (.inl ⟨rfl, rfl⟩) (.inr ⟨_, _, rfl, icast rfl (by omega), (by omega)⟩) (.inl ⟨rfl, rfl⟩) ?_
    obtain ⟨ys36, ay36, cut36, hys36, hlys36, eay36⟩ : ∃ ys_ ay_, (∀ {L : List Res}, RdS W L e_Order a log → RdS W L e_Order ay_ ys_) ∧ ys_ = sub log 0 k ∧ ys_.length = k - 0 ∧ cutA a c 0 10 = ay_ := ⟨_, _, fun h => rds_cut e_Order_ok h _ _ _ (by omega), rfl, sub_len (by omega), rfl⟩
    refine l_eq (t := 36) (v' := .slice ay36 ys36.length (c - 0)) rfl (by rw [eay36, hlys36]) ?_
    have hs36 : SlR W e_Order ay36 ys36 := cut36 (L := []) (rds_old hs) W (Sat.start W)
    have e36 : ys36 = log.take k := by rw [hys36]; exact sub_take
    have ho36 : ∀ x ∈ ys36, ∀ L, OrdR W L x := fun x hx => ho x (sub_mem'' (by rw [hys36] at hx; exact hx))
    have hl36 : ys36.length ≤ 40 := by omega
    have hc36 : ys36.length ≤ (c - 0) ∧ (c - 0) ≤ 9223372036854775807 := by constructor <;> omega
    have hsm36 : ∀ x ∈ ys36, OSmall x := fun x hx => hsm x (sub_mem'' (by rw [hys36] at hx; exact hx))
    refine o_move rfl rfl ?_
    refine o_call rfl cal9 rfl (spieces_ (g := g) hs36 ho36 hc36 hl36 hsm36) ?_
    rintro _ _ ⟨a38, c38, ps38, hdn38, rfl, rfl⟩
    have hit_ps38 := hdn38.2
    refine o_move rfl rfl ?_
    refine o_move rfl rfl ?_
    refine o_call rfl cal9 rfl (spieces_ (g := g) hs ho hc hl hsm) ?_
    rintro _ _ ⟨a41, c41, ps41, hdn41, rfl, rfl⟩
    have hit_ps41 := hdn41.2
    refine o_assign rfl rfl ?_
    refine o_assign rfl rfl ?_
    refine l_nil ?_
    refine q_then ?_
    refine c_seq ?_
    refine c_seq ?_
    have hgo : GoOn g log k ps38 ps41 := goOn_mk hk e36 hdn38.1 hdn41.1
    have hlle := hgo.len
    have hil := idx_le g log log.length
    have hbl := hgo.b.len
    refine c_fact (row_cap 0 rfl) ?_
    intro hcap41
    refine c_region ?_
    refine o_move rfl rfl ?_
    refine o_len rfl rfl Try.underlying27 ?_
    refine o_move rfl rfl ?_
    refine o_len rfl rfl Try.underlying27 ?_
    refine o_bin rfl rfl rfl b_gtr ?_
    refine l_eq (t := 46) (v' := .bool false) rfl (show _ = Value.bool false from by rw [decide_eq_false (by omega)]) ?_
    refine o_move rfl rfl ?_
    refine o_yes rfl rfl rfl ?_
    refine o_move rfl rfl ?_
    refine o_yes rfl rfl rfl ?_
    refine o_move rfl rfl ?_
    refine o_yes rfl rfl rfl ?_
    refine o_move rfl rfl ?_
    refine o_yes rfl rfl rfl ?_
    refine o_len rfl rfl Try.underlying27 ?_
    refine o_yes rfl rfl rfl ?_
    refine o_cut (l' := 0) (h' := ps38.length) (m := c41) rfl rfl Try.underlying27 ti42 (.inl ⟨rfl, rfl⟩) (.inr ⟨_, _, rfl, icast rfl (by omega), (by omega)⟩) (.inl ⟨rfl, rfl⟩) ?_
    obtain ⟨ys52, ay52, cut52, hys52, hlys52, eay52⟩ : ∃ ys_ ay_, (∀ {L : List Res}, RdS W L e_Item a41 ps41 → RdS W L e_Item ay_ ys_) ∧ ys_ = sub ps41 0 ps38.length ∧ ys_.length = ps38.length - 0 ∧ cutA a41 c41 0 12 = ay_ := ⟨_, _, fun h => rds_cut e_Item_ok h _ _ _ (by omega), rfl, sub_len (by omega), rfl⟩
    refine l_eq (t := 52) (v' := .slice ay52 ys52.length (c41 - 0)) rfl (by rw [eay52, hlys52]) ?_
    refine o_yes rfl rfl rfl ?_
    refine o_call rfl cal19 rfl (same15_ (rds_own e_Item_ok 2 rfl) (itsM_R hit_ps38 3 rfl) (cut52 (rds_own e_Item_ok 0 rfl)) (fun x hx => (itsM_R hit_ps41 1 rfl) x (sub_mem'' (by rw [hys52] at hx; exact hx))) (by have h8 := hgo.len; have h9 := idx_le g log log.length; rw [← hgo.b.len] at h9; omega)) ?_
    rintro _ _ ⟨rfl, rfl⟩
    refine l_eq (t := 53) (v' := .bool true) rfl (show _ = Value.bool true from by rw [decide_eq_true (by rw [hys52]; exact hgo.same)]) ?_
    refine o_yes rfl rfl rfl ?_
    refine o_not rfl rfl ?_
    refine o_pick_false rfl rfl rfl ?_
    refine l_nil ?_
    refine q_then ?_
    refine c_false rfl ?_
    refine c_skip ?_
    refine q_then ?_
    refine c_seq ?_
    refine c_region ?_
    refine o_assign rfl rfl ?_
    refine l_nil ?_
    refine q_then ?_
    refine c_seq ?_
    refine c_seq ?_
    refine c_region ?_
    refine o_move rfl rfl ?_
    refine o_len rfl rfl Try.underlying27 ?_
    refine o_bin rfl rfl rfl b_gtr ?_
    refine l_nil ?_
    refine q_then ?_
    refine c_cond rfl (fun h4 => ?_) (fun h4 => ?_)
    · -- h4T
     have h4b := h4
     try simp only [decide_eq_true_eq] at h4
     refine c_region ?_
     refine o_move rfl rfl ?_
     refine o_move rfl rfl ?_
     refine o_len rfl rfl Try.underlying27 ?_
     refine o_bin rfl rfl rfl (b_sub (wrap_i64 (by omega) (by omega))) ?_
     refine o_index e_Item_ok rfl rfl rfl Try.underlying27 (by omega) (by omega) (rds_own e_Item_ok 2 rfl) fun ad63 ead63 => ?_
     obtain ⟨x63, hx63⟩ : ∃ x, (ps38)[(((ps38).length : Int) - 1).toNat]? = some x := ⟨_, List.getElem?_eq_getElem (by omega)⟩
     have hx63' : ps38[ps38.length - 1]? = some x63 := by rw [← hx63]; congr 1; omega
     refine o_fieldAddr rfl rfl Try.underlying42 rfl ti3 (Addr.add_add' _ _ _) ?_
     refine o_load1 rfl rfl Try.underlying3 rfl (rd_sl e_Item_ok ead63 (rds_own e_Item_ok 2 rfl) hx63 rfl) ?_
     refine o_assign rfl rfl ?_
     refine l_nil ?_
     refine q_then ?_
     refine c_seq ?_
     have hla : LastIs ps38 (x63.f_Index) := .inr ⟨x63, hx63', by intro h0; rw [h0] at h4; simp at h4, rfl⟩
     refine c_region ?_
     refine o_move rfl rfl ?_
     refine o_move rfl rfl ?_
     refine o_move rfl rfl ?_
     refine o_call rfl cal20 rfl (next_ (g := g) (last := x63.f_Index) hs ho hc hl hsm) ?_
     rintro _ _ ⟨y70, bb70, rfl, rfl, hlx70, hnx70⟩
     refine o_move rfl rfl ?_
     refine o_extract rfl rfl rfl ?_
     refine o_extract rfl rfl rfl ?_
     refine o_alloc rfl ti42 fun b11 => ?_
     refine o_storen rfl rfl ti42 rfl rfl rfl rfl ?_
     refine o_assign rfl rfl ?_
     refine l_nil ?_
     refine q_then ?_
     refine c_seq ?_
     refine c_seq ?_
     obtain ⟨hnx1, hnx2⟩ := hgo.nx hla hnx70
     have hlt : bb70 = true → ps38.length < ps41.length := fun h9 => by rw [h9] at hnx1; simpa using hnx1.symm
     refine c_held [blk b11 (.cells #[.int .i64 y70.f_Kind, .int .i64 y70.f_Index, .int .i64 y70.ord.f_Tag_Id_Node, .int .u64 y70.ord.f_Tag_Id_Epoch, .int .u64 y70.ord.f_Tag_Id_Seq, .int .i64 y70.ord.f_Tag_Try, .int .i64 y70.ord.f_Txn_Kind, .slice y70.ord.f_Txn_Reads.a (y70.ord.f_Txn_Reads.xs).length y70.ord.f_Txn_Reads.c, .slice y70.ord.f_Txn_Writes.a (y70.ord.f_Txn_Writes.xs).length y70.ord.f_Txn_Writes.c, .slice y70.ord.f_Txn_Ops.a (y70.ord.f_Txn_Ops.xs).length y70.ord.f_Txn_Ops.c, .int .i64 y70.ord.f_Txn_To, .slice y70.ord.f_Marks.a (y70.ord.f_Marks.xs).length y70.ord.f_Marks.c] 42 (0, 0)), ordM y70.ord, row e_Item.T e_Item.sz a41 (ps41).length c41 (flat e_Item ps41), itsM ps41, row e_Item.T e_Item.sz a38 (ps38).length c38 (flat e_Item ps38), itsM ps38] (by kernel_rfl) rfl ?_
     refine h_take 0 rfl rfl (by kernel_rfl) (by kernel_rfl) (by kernel_rfl) (fun L0 => v_move rfl rfl) ?_
     refine h_take 1 rfl rfl (by kernel_rfl) (by kernel_rfl) (by kernel_rfl) (fun L0 => v_move rfl rfl) ?_
     refine h_take 2 rfl rfl (by kernel_rfl) (by kernel_rfl) (by kernel_rfl) (fun L0 => v_len rfl rfl Try.underlying27) ?_
     refine h_take 3 rfl rfl (by kernel_rfl) (by kernel_rfl) (by kernel_rfl) (fun L0 => v_move rfl rfl) ?_
     refine h_take 4 rfl rfl (by kernel_rfl) (by kernel_rfl) (by kernel_rfl) (fun L0 => v_len rfl rfl Try.underlying27) ?_
     refine h_take 5 rfl rfl (by kernel_rfl) (by kernel_rfl) (by kernel_rfl) (fun L0 => v_bin rfl rfl rfl b_gtr) ?_
     refine h_take 6 rfl rfl (by kernel_rfl) (by kernel_rfl) (by kernel_rfl) (fun L0 => v_bin rfl rfl rfl (b_bne Try.underlying4 _ _)) ?_
     refine h_eq (t := 79) (v' := .bool false) rfl (show _ = Value.bool false from by rw [hnx1]; simp) ?_
     refine h_take 7 rfl rfl (by kernel_rfl) (by kernel_rfl) (by kernel_rfl) (fun L0 => v_move rfl rfl) ?_
     refine h_take_yes 8 rfl rfl rfl rfl rfl (by kernel_rfl) (by kernel_rfl) (by kernel_rfl) (fun L0 => v_move rfl rfl) ?_
     refine h_take_yes 9 rfl rfl rfl rfl rfl (by kernel_rfl) (by kernel_rfl) (by kernel_rfl) (fun L0 => v_move rfl rfl) ?_
     refine h_split (t := 82) rfl (fun h5 => ?_) (fun h5 => ?_)
     · -- h5T
      have h5b := h5
      try simp only [decide_eq_true_eq, decide_eq_false_iff_not, Bool.not_eq_eq_eq_not, Bool.not_true, Bool.not_false, Bool.not_eq_true', Bool.not_eq_false', Int.not_lt, Int.not_le, Bool.or_eq_true, Bool.and_eq_true] at h5
      refine h_take_yes 10 rfl rfl rfl rfl rfl (by kernel_rfl) (by kernel_rfl) (by kernel_rfl) (fun L0 => v_loadn (vs := [_, _, _, _, _, _, _, _, _, _, _, _]) rfl rfl Try.underlying42 rfl ti42 (rdn_lit 0 rfl rfl)) ?_
      refine h_take_yes 12 rfl rfl rfl rfl rfl (by kernel_rfl) (by kernel_rfl) (by kernel_rfl) (fun L0 => v_move rfl rfl) ?_
      refine h_take_yes 13 rfl rfl rfl rfl rfl (by kernel_rfl) (by kernel_rfl) (by kernel_rfl) (fun L0 => v_move rfl rfl) ?_
      refine h_take_yes 14 rfl rfl rfl rfl rfl (by kernel_rfl) (by kernel_rfl) (by kernel_rfl) (fun L0 => v_len rfl rfl Try.underlying27) ?_
      have hlt9 := hlt (by assumption)
      refine h_take_yes 15 rfl rfl rfl rfl rfl (by kernel_rfl) (by kernel_rfl) (by kernel_rfl) (fun L0 => v_move rfl rfl) ?_
      refine h_take_yes 16 rfl rfl rfl rfl rfl (by kernel_rfl) (by kernel_rfl) (by kernel_rfl) (fun L0 => v_len rfl rfl Try.underlying27) ?_
      refine h_take_yes 17 rfl rfl rfl rfl rfl (by kernel_rfl) (by kernel_rfl) (by kernel_rfl) (fun L0 => v_bin rfl rfl rfl (b_add (wrap_i64 (by omega) (by omega)))) ?_
      refine h_take_yes 18 rfl rfl rfl rfl rfl (by kernel_rfl) (by kernel_rfl) (by kernel_rfl) (fun L0 => v_cut (l' := ps38.length) (h' := (ps38.length + 1)) (m := c41) rfl rfl Try.underlying27 ti42 (.inl ⟨rfl, rfl⟩) (.inr ⟨_, _, rfl, icast rfl (by omega), (by omega)⟩) (.inr ⟨_, _, rfl, icast rfl (by omega), (by omega)⟩)) ?_
      obtain ⟨ys91, ay91, cut91, hys91, hlys91, eay91⟩ : ∃ ys_ ay_, (∀ {L : List Res}, RdS W L e_Item a41 ps41 → RdS W L e_Item ay_ ys_) ∧ ys_ = sub ps41 ps38.length (ps38.length + 1) ∧ ys_.length = (ps38.length + 1) - ps38.length ∧ cutA a41 c41 ps38.length 12 = ay_ := ⟨_, _, fun h => rds_cut e_Item_ok h _ _ _ (by omega), rfl, sub_len (by omega), rfl⟩
      refine h_eq (t := 91) (v' := .slice ay91 ys91.length (c41 - ps38.length)) rfl (by rw [eay91, hlys91]) ?_
      refine h_one 11 rfl (by kernel_rfl) ?_
      refine o_yes rfl rfl rfl ?_
      refine o_lit e_Item_ok rfl Try.underlying27 rfl rfl rfl (lit_ok rfl) [y70] rfl rfl fun a84 => ?_
      refine l_nil ?_
      refine q_conv (fun w S => S.perm p6) ?_
      refine q_conv (fun w S => S.perm p6) ?_
      refine q_conv (fun w S => S.perm p6) ?_
      refine q_conv (fun w S => S.perm p6) ?_
      refine q_conv (fun w S => S.perm p6) ?_
      refine q_conv (fun w S => S.perm p6) ?_
      refine h_next ?_
      refine h_one 19 rfl (by kernel_rfl) ?_
      refine o_yes rfl rfl rfl ?_
      refine o_call rfl cal19 rfl (same15_ (rds_own e_Item_ok 6 rfl) (fun x hx => by rw [List.mem_singleton.1 hx]; exact ordM_R hlx70 1 rfl) (cut91 (rds_own e_Item_ok 2 rfl)) (fun x hx => (itsM_R hit_ps41 3 rfl) x (sub_mem'' (by rw [hys91] at hx; exact hx))) (by simp)) ?_
      rintro _ _ ⟨rfl, rfl⟩
      refine l_nil ?_
      refine h_next ?_
      refine h_eq (t := 92) (v' := .bool true) rfl (show _ = Value.bool true from by rw [decide_eq_true (by rw [hys91]; exact hnx2 (by assumption))]) ?_
      refine h_take_yes 20 rfl rfl rfl rfl rfl (by kernel_rfl) (by kernel_rfl) (by kernel_rfl) (fun L0 => v_not rfl rfl) ?_
      refine h_take_yes 21 rfl rfl rfl rfl rfl (by kernel_rfl) (by kernel_rfl) (by kernel_rfl) (fun L0 => v_pick_true rfl rfl rfl) ?_
      refine h_take 22 rfl rfl (by kernel_rfl) (by kernel_rfl) (by kernel_rfl) (fun L0 => v_pick_false rfl rfl rfl) ?_
      refine h_done (by kernel_rfl) ?_
      refine q_then ?_
      refine c_false rfl ?_
      refine c_skip ?_
      refine q_then ?_
      refine c_seq ?_
      refine c_region ?_
      refine o_move rfl rfl ?_
      refine o_call rfl cal22 rfl (region_ (g := g)) ?_
      rintro _ _ ⟨b97, rfl, rfl⟩
      refine o_assign rfl rfl ?_
      refine l_nil ?_
      refine q_then ?_
      refine c_seq ?_
      refine c_seq ?_
      refine c_region ?_
      refine o_move rfl rfl ?_
      refine o_bin rfl rfl rfl (b_peq Try.underlying56 _) ?_
      refine l_nil ?_
      refine q_then ?_
      refine c_false rfl ?_
      refine c_skip ?_
      refine q_then ?_
      refine c_seq ?_
      refine c_seq ?_
      refine c_region ?_
      refine o_move rfl rfl ?_
      refine o_len rfl rfl Try.underlying27 ?_
      refine o_move rfl rfl ?_
      refine l_nil ?_
      refine q_then ?_
      refine c_block ?_
      refine c_loop (α := Nat × FS × Int) (fun z => [(13, .pointer (some ⟨b97, 0, none⟩)), (100, .slice a41 (ps41).length c41), (101, .int .i64 ((ps41).length : Int)), (102, .int .i64 (z.1 : Int))]) (fun z => FltR b97 z.2.1 :: blk b11 (.cells #[.int .i64 y70.f_Kind, .int .i64 y70.f_Index, .int .i64 y70.ord.f_Tag_Id_Node, .int .u64 y70.ord.f_Tag_Id_Epoch, .int .u64 y70.ord.f_Tag_Id_Seq, .int .i64 y70.ord.f_Tag_Try, .int .i64 y70.ord.f_Txn_Kind, .slice y70.ord.f_Txn_Reads.a (y70.ord.f_Txn_Reads.xs).length y70.ord.f_Txn_Reads.c, .slice y70.ord.f_Txn_Writes.a (y70.ord.f_Txn_Writes.xs).length y70.ord.f_Txn_Writes.c, .slice y70.ord.f_Txn_Ops.a (y70.ord.f_Txn_Ops.xs).length y70.ord.f_Txn_Ops.c, .int .i64 y70.ord.f_Txn_To, .slice y70.ord.f_Marks.a (y70.ord.f_Marks.xs).length y70.ord.f_Marks.c] 42 (0, 0)) :: ordM y70.ord :: row e_Item.T e_Item.sz a41 (ps41).length c41 (flat e_Item ps41) :: itsM ps41 :: row e_Item.T e_Item.sz a38 (ps38).length c38 (flat e_Item ps38) :: itsM ps38 :: row e_Item.T e_Item.sz a84 ([y70]).length 1 (flat e_Item [y70]) :: F) (fun z => z.1 ≤ ps41.length ∧ Vw z.2.1 g z.2.2 (fun _ => 0) ∧ LastK g log z.1 z.2.2) (fun z => ps41.length - z.1) (0, ⟨g, -1, []⟩, -1) (by exact ⟨Nat.zero_le _, Vw.new g, last_0 _ _⟩) ⟨(by first | rfl | exact vint (by omega)), (by first | rfl | exact vint (by omega)), (by first | rfl | exact vint (by omega)), (by first | rfl | exact vint (by omega)), trivial⟩ (fun w S => S) ?_
      rintro ⟨i, s, l⟩ ⟨hi, hvw, hlk⟩
      try dsimp only at *
      refine c_seq ?_
      refine c_region ?_
      refine o_bin rfl rfl rfl b_lss ?_
      refine l_nil ?_
      refine q_then ?_
      refine c_seq ?_
      refine c_cond rfl (fun h6 => ?_) (fun h6 => ?_)
      · -- h6T
       have h6b := h6
       try simp only [decide_eq_true_eq] at h6
       refine c_skip ?_
       refine q_then ?_
       refine c_seq ?_
       refine c_block ?_
       refine c_seq ?_
       refine c_region ?_
       refine o_index e_Item_ok rfl rfl rfl Try.underlying27 (by omega) (by omega) (rds_own e_Item_ok 3 rfl) fun ad104 ead104 => ?_
       obtain ⟨x104, hx104⟩ : ∃ x, (ps41)[((i : Int)).toNat]? = some x := ⟨_, List.getElem?_eq_getElem (by omega)⟩
       have hfo := flt_on hgo.b hvw hlk hx104
       refine o_loadn (vs := e_Item.cells x104) rfl rfl Try.underlying42 rfl ti42 (rdn_sl e_Item_ok ead104 (rds_own e_Item_ok 3 rfl) hx104) ?_
       refine o_alloc rfl ti42 fun b15 => ?_
       refine o_storen rfl rfl ti42 rfl rfl rfl rfl ?_
       refine l_nil ?_
       refine q_then ?_
       refine c_seq ?_
       refine c_region ?_
       refine o_move rfl rfl ?_
       refine o_loadn (vs := [_, _, _, _, _, _, _, _, _, _, _, _]) rfl rfl Try.underlying42 rfl ti42 (rdn_lit 0 rfl rfl) ?_
       refine l_f1 ?_
       refine o_call rfl cal23 rfl (fitem_ (x := x104) (itsM_R hit_ps41 4 rfl x104 (List.mem_of_getElem? hx104)) (pc_marks hgo.b hsm hx104)) ?_
       rintro _ _ ⟨rfl, rfl⟩
       refine l_eq (t := 108) (v' := .bool true) rfl (show _ = Value.bool true from by rw [hfo.1]) ?_
       refine o_not rfl rfl ?_
       refine l_nil ?_
       refine q_then ?_
       refine c_false rfl ?_
       refine c_skip ?_
       refine q_block ?_
       refine q_then ?_
       refine c_region ?_
       refine o_bin rfl rfl rfl (b_add (wrap_i64 (by omega) (by omega))) ?_
       refine o_move rfl rfl ?_
       refine l_nil ?_
       refine q_conv (fun w S => (S.perm p1).tail) ?_
       exact q_round (i + 1, (s.item x104).2, x104.f_Index) (by exact ⟨by omega, hfo.2.1, hfo.2.2⟩) (by (try dsimp only); omega) ⟨(by first | rfl | exact vint (by omega)), (by first | rfl | exact vint (by omega)), (by first | rfl | exact vint (by omega)), (by first | rfl | exact vint (by omega)), trivial⟩ (fun w S => S)
      · -- h6F
       have h6b := h6
       try simp only [decide_eq_false_iff_not, Int.not_lt, Int.not_le] at h6
       refine c_exit ?_
       refine q_pass_exit ?_
       refine q_pass_exit ?_
       refine q_hit ?_
       refine q_then ?_
       refine c_seq ?_
       refine c_region ?_
       refine o_assign rfl rfl ?_
       refine l_nil ?_
       refine q_then ?_
       refine c_ret ?_
       refine q_conv (fun w S => S.tail) ?_
       refine q_conv (fun w S => S.tail) ?_
       refine q_conv (fun w S => S.tail) ?_
       refine q_conv (fun w S => S.tail) ?_
       refine q_conv (fun w S => S.tail) ?_
       refine q_conv (fun w S => S.tail) ?_
       refine q_conv (fun w S => S.tail) ?_
       refine q_conv (fun w S => S.tail) ?_
       exact f_ret (r_one rfl rfl) (⟨rfl, rfl⟩) (fun w S => S)
     · -- h5F
      have h5b := h5
      try simp only [decide_eq_true_eq, decide_eq_false_iff_not, Bool.not_eq_eq_eq_not, Bool.not_true, Bool.not_false, Bool.not_eq_true', Bool.not_eq_false', Int.not_lt, Int.not_le, Bool.or_eq_true, Bool.and_eq_true] at h5
      refine h_take_no 10 rfl rfl rfl rfl rfl (by kernel_rfl) (by kernel_rfl) (by kernel_rfl) ?_
      refine h_take_no 11 rfl rfl rfl rfl rfl (by kernel_rfl) (by kernel_rfl) (by kernel_rfl) ?_
      refine h_take_no 12 rfl rfl rfl rfl rfl (by kernel_rfl) (by kernel_rfl) (by kernel_rfl) ?_
      refine h_take_no 13 rfl rfl rfl rfl rfl (by kernel_rfl) (by kernel_rfl) (by kernel_rfl) ?_
      refine h_take_no 14 rfl rfl rfl rfl rfl (by kernel_rfl) (by kernel_rfl) (by kernel_rfl) ?_
      refine h_take_no 15 rfl rfl rfl rfl rfl (by kernel_rfl) (by kernel_rfl) (by kernel_rfl) ?_
      refine h_take_no 16 rfl rfl rfl rfl rfl (by kernel_rfl) (by kernel_rfl) (by kernel_rfl) ?_
      refine h_take_no 17 rfl rfl rfl rfl rfl (by kernel_rfl) (by kernel_rfl) (by kernel_rfl) ?_
      refine h_take_no 18 rfl rfl rfl rfl rfl (by kernel_rfl) (by kernel_rfl) (by kernel_rfl) ?_
      refine h_take_no 19 rfl rfl rfl rfl rfl (by kernel_rfl) (by kernel_rfl) (by kernel_rfl) ?_
      refine h_take_no 20 rfl rfl rfl rfl rfl (by kernel_rfl) (by kernel_rfl) (by kernel_rfl) ?_
      refine h_take_yes 21 rfl rfl rfl rfl rfl (by kernel_rfl) (by kernel_rfl) (by kernel_rfl) (fun L0 => v_pick_false rfl rfl rfl) ?_
      refine h_take 22 rfl rfl (by kernel_rfl) (by kernel_rfl) (by kernel_rfl) (fun L0 => v_pick_false rfl rfl rfl) ?_
      refine h_done (by kernel_rfl) ?_
      refine q_then ?_
      refine c_false rfl ?_
      refine c_skip ?_
      refine q_then ?_
      refine c_seq ?_
      refine c_region ?_
      refine o_move rfl rfl ?_
      refine o_call rfl cal22 rfl (region_ (g := g)) ?_
      rintro _ _ ⟨b97, rfl, rfl⟩
      refine o_assign rfl rfl ?_
      refine l_nil ?_
      refine q_then ?_
      refine c_seq ?_
      refine c_seq ?_
      refine c_region ?_
      refine o_move rfl rfl ?_
      refine o_bin rfl rfl rfl (b_peq Try.underlying56 _) ?_
      refine l_nil ?_
      refine q_then ?_
      refine c_false rfl ?_
      refine c_skip ?_
      refine q_then ?_
      refine c_seq ?_
      refine c_seq ?_
      refine c_region ?_
      refine o_move rfl rfl ?_
      refine o_len rfl rfl Try.underlying27 ?_
      refine o_move rfl rfl ?_
      refine l_nil ?_
      refine q_then ?_
      refine c_block ?_
      refine c_loop (α := Nat × FS × Int) (fun z => [(13, .pointer (some ⟨b97, 0, none⟩)), (100, .slice a41 (ps41).length c41), (101, .int .i64 ((ps41).length : Int)), (102, .int .i64 (z.1 : Int))]) (fun z => FltR b97 z.2.1 :: blk b11 (.cells #[.int .i64 y70.f_Kind, .int .i64 y70.f_Index, .int .i64 y70.ord.f_Tag_Id_Node, .int .u64 y70.ord.f_Tag_Id_Epoch, .int .u64 y70.ord.f_Tag_Id_Seq, .int .i64 y70.ord.f_Tag_Try, .int .i64 y70.ord.f_Txn_Kind, .slice y70.ord.f_Txn_Reads.a (y70.ord.f_Txn_Reads.xs).length y70.ord.f_Txn_Reads.c, .slice y70.ord.f_Txn_Writes.a (y70.ord.f_Txn_Writes.xs).length y70.ord.f_Txn_Writes.c, .slice y70.ord.f_Txn_Ops.a (y70.ord.f_Txn_Ops.xs).length y70.ord.f_Txn_Ops.c, .int .i64 y70.ord.f_Txn_To, .slice y70.ord.f_Marks.a (y70.ord.f_Marks.xs).length y70.ord.f_Marks.c] 42 (0, 0)) :: ordM y70.ord :: row e_Item.T e_Item.sz a41 (ps41).length c41 (flat e_Item ps41) :: itsM ps41 :: row e_Item.T e_Item.sz a38 (ps38).length c38 (flat e_Item ps38) :: itsM ps38 :: F) (fun z => z.1 ≤ ps41.length ∧ Vw z.2.1 g z.2.2 (fun _ => 0) ∧ LastK g log z.1 z.2.2) (fun z => ps41.length - z.1) (0, ⟨g, -1, []⟩, -1) (by exact ⟨Nat.zero_le _, Vw.new g, last_0 _ _⟩) ⟨(by first | rfl | exact vint (by omega)), (by first | rfl | exact vint (by omega)), (by first | rfl | exact vint (by omega)), (by first | rfl | exact vint (by omega)), trivial⟩ (fun w S => S) ?_
      rintro ⟨i, s, l⟩ ⟨hi, hvw, hlk⟩
      try dsimp only at *
      refine c_seq ?_
      refine c_region ?_
      refine o_bin rfl rfl rfl b_lss ?_
      refine l_nil ?_
      refine q_then ?_
      refine c_seq ?_
      refine c_cond rfl (fun h7 => ?_) (fun h7 => ?_)
      · -- h7T
       have h7b := h7
       try simp only [decide_eq_true_eq] at h7
       refine c_skip ?_
       refine q_then ?_
       refine c_seq ?_
       refine c_block ?_
       refine c_seq ?_
       refine c_region ?_
       refine o_index e_Item_ok rfl rfl rfl Try.underlying27 (by omega) (by omega) (rds_own e_Item_ok 3 rfl) fun ad104 ead104 => ?_
       obtain ⟨x104, hx104⟩ : ∃ x, (ps41)[((i : Int)).toNat]? = some x := ⟨_, List.getElem?_eq_getElem (by omega)⟩
       have hfo := flt_on hgo.b hvw hlk hx104
       refine o_loadn (vs := e_Item.cells x104) rfl rfl Try.underlying42 rfl ti42 (rdn_sl e_Item_ok ead104 (rds_own e_Item_ok 3 rfl) hx104) ?_
       refine o_alloc rfl ti42 fun b15 => ?_
       refine o_storen rfl rfl ti42 rfl rfl rfl rfl ?_
       refine l_nil ?_
       refine q_then ?_
       refine c_seq ?_
       refine c_region ?_
       refine o_move rfl rfl ?_
       refine o_loadn (vs := [_, _, _, _, _, _, _, _, _, _, _, _]) rfl rfl Try.underlying42 rfl ti42 (rdn_lit 0 rfl rfl) ?_
       refine l_f1 ?_
       refine o_call rfl cal23 rfl (fitem_ (x := x104) (itsM_R hit_ps41 4 rfl x104 (List.mem_of_getElem? hx104)) (pc_marks hgo.b hsm hx104)) ?_
       rintro _ _ ⟨rfl, rfl⟩
       refine l_eq (t := 108) (v' := .bool true) rfl (show _ = Value.bool true from by rw [hfo.1]) ?_
       refine o_not rfl rfl ?_
       refine l_nil ?_
       refine q_then ?_
       refine c_false rfl ?_
       refine c_skip ?_
       refine q_block ?_
       refine q_then ?_
       refine c_region ?_
       refine o_bin rfl rfl rfl (b_add (wrap_i64 (by omega) (by omega))) ?_
       refine o_move rfl rfl ?_
       refine l_nil ?_
       refine q_conv (fun w S => (S.perm p1).tail) ?_
       exact q_round (i + 1, (s.item x104).2, x104.f_Index) (by exact ⟨by omega, hfo.2.1, hfo.2.2⟩) (by (try dsimp only); omega) ⟨(by first | rfl | exact vint (by omega)), (by first | rfl | exact vint (by omega)), (by first | rfl | exact vint (by omega)), (by first | rfl | exact vint (by omega)), trivial⟩ (fun w S => S)
      · -- h7F
       have h7b := h7
       try simp only [decide_eq_false_iff_not, Int.not_lt, Int.not_le] at h7
       refine c_exit ?_
       refine q_pass_exit ?_
       refine q_pass_exit ?_
       refine q_hit ?_
       refine q_then ?_
       refine c_seq ?_
       refine c_region ?_
       refine o_assign rfl rfl ?_
       refine l_nil ?_
       refine q_then ?_
       refine c_ret ?_
       refine q_conv (fun w S => S.tail) ?_
       refine q_conv (fun w S => S.tail) ?_
       refine q_conv (fun w S => S.tail) ?_
       refine q_conv (fun w S => S.tail) ?_
       refine q_conv (fun w S => S.tail) ?_
       refine q_conv (fun w S => S.tail) ?_
       refine q_conv (fun w S => S.tail) ?_
       exact f_ret (r_one rfl rfl) (⟨rfl, rfl⟩) (fun w S => S)
    · -- h4F
     have h4b := h4
     try simp only [decide_eq_false_iff_not, Int.not_lt, Int.not_le] at h4
     refine c_skip ?_
     refine q_then ?_
     refine c_seq ?_
     have hla : LastIs ps38 (-1) := .inl ⟨List.eq_nil_of_length_eq_zero (by omega), rfl⟩
     refine c_region ?_
     refine o_move rfl rfl ?_
     refine o_move rfl rfl ?_
     refine o_move rfl rfl ?_
     refine o_call rfl cal20 rfl (next_ (g := g) (last := (-1)) hs ho hc hl hsm) ?_
     rintro _ _ ⟨y70, bb70, rfl, rfl, hlx70, hnx70⟩
     refine o_move rfl rfl ?_
     refine o_extract rfl rfl rfl ?_
     refine o_extract rfl rfl rfl ?_
     refine o_alloc rfl ti42 fun b11 => ?_
     refine o_storen rfl rfl ti42 rfl rfl rfl rfl ?_
     refine o_assign rfl rfl ?_
     refine l_nil ?_
     refine q_then ?_
     refine c_seq ?_
     refine c_seq ?_
     obtain ⟨hnx1, hnx2⟩ := hgo.nx hla hnx70
     have hlt : bb70 = true → ps38.length < ps41.length := fun h9 => by rw [h9] at hnx1; simpa using hnx1.symm
     refine c_held [blk b11 (.cells #[.int .i64 y70.f_Kind, .int .i64 y70.f_Index, .int .i64 y70.ord.f_Tag_Id_Node, .int .u64 y70.ord.f_Tag_Id_Epoch, .int .u64 y70.ord.f_Tag_Id_Seq, .int .i64 y70.ord.f_Tag_Try, .int .i64 y70.ord.f_Txn_Kind, .slice y70.ord.f_Txn_Reads.a (y70.ord.f_Txn_Reads.xs).length y70.ord.f_Txn_Reads.c, .slice y70.ord.f_Txn_Writes.a (y70.ord.f_Txn_Writes.xs).length y70.ord.f_Txn_Writes.c, .slice y70.ord.f_Txn_Ops.a (y70.ord.f_Txn_Ops.xs).length y70.ord.f_Txn_Ops.c, .int .i64 y70.ord.f_Txn_To, .slice y70.ord.f_Marks.a (y70.ord.f_Marks.xs).length y70.ord.f_Marks.c] 42 (0, 0)), ordM y70.ord, row e_Item.T e_Item.sz a41 (ps41).length c41 (flat e_Item ps41), itsM ps41, row e_Item.T e_Item.sz a38 (ps38).length c38 (flat e_Item ps38), itsM ps38] (by kernel_rfl) rfl ?_
     refine h_take 0 rfl rfl (by kernel_rfl) (by kernel_rfl) (by kernel_rfl) (fun L0 => v_move rfl rfl) ?_
     refine h_take 1 rfl rfl (by kernel_rfl) (by kernel_rfl) (by kernel_rfl) (fun L0 => v_move rfl rfl) ?_
     refine h_take 2 rfl rfl (by kernel_rfl) (by kernel_rfl) (by kernel_rfl) (fun L0 => v_len rfl rfl Try.underlying27) ?_
     refine h_take 3 rfl rfl (by kernel_rfl) (by kernel_rfl) (by kernel_rfl) (fun L0 => v_move rfl rfl) ?_
     refine h_take 4 rfl rfl (by kernel_rfl) (by kernel_rfl) (by kernel_rfl) (fun L0 => v_len rfl rfl Try.underlying27) ?_
     refine h_take 5 rfl rfl (by kernel_rfl) (by kernel_rfl) (by kernel_rfl) (fun L0 => v_bin rfl rfl rfl b_gtr) ?_
     refine h_take 6 rfl rfl (by kernel_rfl) (by kernel_rfl) (by kernel_rfl) (fun L0 => v_bin rfl rfl rfl (b_bne Try.underlying4 _ _)) ?_
     refine h_eq (t := 79) (v' := .bool false) rfl (show _ = Value.bool false from by rw [hnx1]; simp) ?_
     refine h_take 7 rfl rfl (by kernel_rfl) (by kernel_rfl) (by kernel_rfl) (fun L0 => v_move rfl rfl) ?_
     refine h_take_yes 8 rfl rfl rfl rfl rfl (by kernel_rfl) (by kernel_rfl) (by kernel_rfl) (fun L0 => v_move rfl rfl) ?_
     refine h_take_yes 9 rfl rfl rfl rfl rfl (by kernel_rfl) (by kernel_rfl) (by kernel_rfl) (fun L0 => v_move rfl rfl) ?_
     refine h_split (t := 82) rfl (fun h8 => ?_) (fun h8 => ?_)
     · -- h8T
      have h8b := h8
      try simp only [decide_eq_true_eq, decide_eq_false_iff_not, Bool.not_eq_eq_eq_not, Bool.not_true, Bool.not_false, Bool.not_eq_true', Bool.not_eq_false', Int.not_lt, Int.not_le, Bool.or_eq_true, Bool.and_eq_true] at h8
      refine h_take_yes 10 rfl rfl rfl rfl rfl (by kernel_rfl) (by kernel_rfl) (by kernel_rfl) (fun L0 => v_loadn (vs := [_, _, _, _, _, _, _, _, _, _, _, _]) rfl rfl Try.underlying42 rfl ti42 (rdn_lit 0 rfl rfl)) ?_
      refine h_take_yes 12 rfl rfl rfl rfl rfl (by kernel_rfl) (by kernel_rfl) (by kernel_rfl) (fun L0 => v_move rfl rfl) ?_
      refine h_take_yes 13 rfl rfl rfl rfl rfl (by kernel_rfl) (by kernel_rfl) (by kernel_rfl) (fun L0 => v_move rfl rfl) ?_
      refine h_take_yes 14 rfl rfl rfl rfl rfl (by kernel_rfl) (by kernel_rfl) (by kernel_rfl) (fun L0 => v_len rfl rfl Try.underlying27) ?_
      have hlt9 := hlt (by assumption)
      refine h_take_yes 15 rfl rfl rfl rfl rfl (by kernel_rfl) (by kernel_rfl) (by kernel_rfl) (fun L0 => v_move rfl rfl) ?_
      refine h_take_yes 16 rfl rfl rfl rfl rfl (by kernel_rfl) (by kernel_rfl) (by kernel_rfl) (fun L0 => v_len rfl rfl Try.underlying27) ?_
      refine h_take_yes 17 rfl rfl rfl rfl rfl (by kernel_rfl) (by kernel_rfl) (by kernel_rfl) (fun L0 => v_bin rfl rfl rfl (b_add (wrap_i64 (by omega) (by omega)))) ?_
      refine h_take_yes 18 rfl rfl rfl rfl rfl (by kernel_rfl) (by kernel_rfl) (by kernel_rfl) (fun L0 => v_cut (l' := ps38.length) (h' := (ps38.length + 1)) (m := c41) rfl rfl Try.underlying27 ti42 (.inl ⟨rfl, rfl⟩) (.inr ⟨_, _, rfl, icast rfl (by omega), (by omega)⟩) (.inr ⟨_, _, rfl, icast rfl (by omega), (by omega)⟩)) ?_
      obtain ⟨ys91, ay91, cut91, hys91, hlys91, eay91⟩ : ∃ ys_ ay_, (∀ {L : List Res}, RdS W L e_Item a41 ps41 → RdS W L e_Item ay_ ys_) ∧ ys_ = sub ps41 ps38.length (ps38.length + 1) ∧ ys_.length = (ps38.length + 1) - ps38.length ∧ cutA a41 c41 ps38.length 12 = ay_ := ⟨_, _, fun h => rds_cut e_Item_ok h _ _ _ (by omega), rfl, sub_len (by omega), rfl⟩
      refine h_eq (t := 91) (v' := .slice ay91 ys91.length (c41 - ps38.length)) rfl (by rw [eay91, hlys91]) ?_
      refine h_one 11 rfl (by kernel_rfl) ?_
      refine o_yes rfl rfl rfl ?_
      refine o_lit e_Item_ok rfl Try.underlying27 rfl rfl rfl (lit_ok rfl) [y70] rfl rfl fun a84 => ?_
      refine l_nil ?_
      refine q_conv (fun w S => S.perm p6) ?_
      refine q_conv (fun w S => S.perm p6) ?_
      refine q_conv (fun w S => S.perm p6) ?_
      refine q_conv (fun w S => S.perm p6) ?_
      refine q_conv (fun w S => S.perm p6) ?_
      refine q_conv (fun w S => S.perm p6) ?_
      refine h_next ?_
      refine h_one 19 rfl (by kernel_rfl) ?_
      refine o_yes rfl rfl rfl ?_
      refine o_call rfl cal19 rfl (same15_ (rds_own e_Item_ok 6 rfl) (fun x hx => by rw [List.mem_singleton.1 hx]; exact ordM_R hlx70 1 rfl) (cut91 (rds_own e_Item_ok 2 rfl)) (fun x hx => (itsM_R hit_ps41 3 rfl) x (sub_mem'' (by rw [hys91] at hx; exact hx))) (by simp)) ?_
      rintro _ _ ⟨rfl, rfl⟩
      refine l_nil ?_
      refine h_next ?_
      refine h_eq (t := 92) (v' := .bool true) rfl (show _ = Value.bool true from by rw [decide_eq_true (by rw [hys91]; exact hnx2 (by assumption))]) ?_
      refine h_take_yes 20 rfl rfl rfl rfl rfl (by kernel_rfl) (by kernel_rfl) (by kernel_rfl) (fun L0 => v_not rfl rfl) ?_
      refine h_take_yes 21 rfl rfl rfl rfl rfl (by kernel_rfl) (by kernel_rfl) (by kernel_rfl) (fun L0 => v_pick_true rfl rfl rfl) ?_
      refine h_take 22 rfl rfl (by kernel_rfl) (by kernel_rfl) (by kernel_rfl) (fun L0 => v_pick_false rfl rfl rfl) ?_
      refine h_done (by kernel_rfl) ?_
      refine q_then ?_
      refine c_false rfl ?_
      refine c_skip ?_
      refine q_then ?_
      refine c_seq ?_
      refine c_region ?_
      refine o_move rfl rfl ?_
      refine o_call rfl cal22 rfl (region_ (g := g)) ?_
      rintro _ _ ⟨b97, rfl, rfl⟩
      refine o_assign rfl rfl ?_
      refine l_nil ?_
      refine q_then ?_
      refine c_seq ?_
      refine c_seq ?_
      refine c_region ?_
      refine o_move rfl rfl ?_
      refine o_bin rfl rfl rfl (b_peq Try.underlying56 _) ?_
      refine l_nil ?_
      refine q_then ?_
      refine c_false rfl ?_
      refine c_skip ?_
      refine q_then ?_
      refine c_seq ?_
      refine c_seq ?_
      refine c_region ?_
      refine o_move rfl rfl ?_
      refine o_len rfl rfl Try.underlying27 ?_
      refine o_move rfl rfl ?_
      refine l_nil ?_
      refine q_then ?_
      refine c_block ?_
      refine c_loop (α := Nat × FS × Int) (fun z => [(13, .pointer (some ⟨b97, 0, none⟩)), (100, .slice a41 (ps41).length c41), (101, .int .i64 ((ps41).length : Int)), (102, .int .i64 (z.1 : Int))]) (fun z => FltR b97 z.2.1 :: blk b11 (.cells #[.int .i64 y70.f_Kind, .int .i64 y70.f_Index, .int .i64 y70.ord.f_Tag_Id_Node, .int .u64 y70.ord.f_Tag_Id_Epoch, .int .u64 y70.ord.f_Tag_Id_Seq, .int .i64 y70.ord.f_Tag_Try, .int .i64 y70.ord.f_Txn_Kind, .slice y70.ord.f_Txn_Reads.a (y70.ord.f_Txn_Reads.xs).length y70.ord.f_Txn_Reads.c, .slice y70.ord.f_Txn_Writes.a (y70.ord.f_Txn_Writes.xs).length y70.ord.f_Txn_Writes.c, .slice y70.ord.f_Txn_Ops.a (y70.ord.f_Txn_Ops.xs).length y70.ord.f_Txn_Ops.c, .int .i64 y70.ord.f_Txn_To, .slice y70.ord.f_Marks.a (y70.ord.f_Marks.xs).length y70.ord.f_Marks.c] 42 (0, 0)) :: ordM y70.ord :: row e_Item.T e_Item.sz a41 (ps41).length c41 (flat e_Item ps41) :: itsM ps41 :: row e_Item.T e_Item.sz a38 (ps38).length c38 (flat e_Item ps38) :: itsM ps38 :: row e_Item.T e_Item.sz a84 ([y70]).length 1 (flat e_Item [y70]) :: F) (fun z => z.1 ≤ ps41.length ∧ Vw z.2.1 g z.2.2 (fun _ => 0) ∧ LastK g log z.1 z.2.2) (fun z => ps41.length - z.1) (0, ⟨g, -1, []⟩, -1) (by exact ⟨Nat.zero_le _, Vw.new g, last_0 _ _⟩) ⟨(by first | rfl | exact vint (by omega)), (by first | rfl | exact vint (by omega)), (by first | rfl | exact vint (by omega)), (by first | rfl | exact vint (by omega)), trivial⟩ (fun w S => S) ?_
      rintro ⟨i, s, l⟩ ⟨hi, hvw, hlk⟩
      try dsimp only at *
      refine c_seq ?_
      refine c_region ?_
      refine o_bin rfl rfl rfl b_lss ?_
      refine l_nil ?_
      refine q_then ?_
      refine c_seq ?_
      refine c_cond rfl (fun h9 => ?_) (fun h9 => ?_)
      · -- h9T
       have h9b := h9
       try simp only [decide_eq_true_eq] at h9
       refine c_skip ?_
       refine q_then ?_
       refine c_seq ?_
       refine c_block ?_
       refine c_seq ?_
       refine c_region ?_
       refine o_index e_Item_ok rfl rfl rfl Try.underlying27 (by omega) (by omega) (rds_own e_Item_ok 3 rfl) fun ad104 ead104 => ?_
       obtain ⟨x104, hx104⟩ : ∃ x, (ps41)[((i : Int)).toNat]? = some x := ⟨_, List.getElem?_eq_getElem (by omega)⟩
       have hfo := flt_on hgo.b hvw hlk hx104
       refine o_loadn (vs := e_Item.cells x104) rfl rfl Try.underlying42 rfl ti42 (rdn_sl e_Item_ok ead104 (rds_own e_Item_ok 3 rfl) hx104) ?_
       refine o_alloc rfl ti42 fun b15 => ?_
       refine o_storen rfl rfl ti42 rfl rfl rfl rfl ?_
       refine l_nil ?_
       refine q_then ?_
       refine c_seq ?_
       refine c_region ?_
       refine o_move rfl rfl ?_
       refine o_loadn (vs := [_, _, _, _, _, _, _, _, _, _, _, _]) rfl rfl Try.underlying42 rfl ti42 (rdn_lit 0 rfl rfl) ?_
       refine l_f1 ?_
       refine o_call rfl cal23 rfl (fitem_ (x := x104) (itsM_R hit_ps41 4 rfl x104 (List.mem_of_getElem? hx104)) (pc_marks hgo.b hsm hx104)) ?_
       rintro _ _ ⟨rfl, rfl⟩
       refine l_eq (t := 108) (v' := .bool true) rfl (show _ = Value.bool true from by rw [hfo.1]) ?_
       refine o_not rfl rfl ?_
       refine l_nil ?_
       refine q_then ?_
       refine c_false rfl ?_
       refine c_skip ?_
       refine q_block ?_
       refine q_then ?_
       refine c_region ?_
       refine o_bin rfl rfl rfl (b_add (wrap_i64 (by omega) (by omega))) ?_
       refine o_move rfl rfl ?_
       refine l_nil ?_
       refine q_conv (fun w S => (S.perm p1).tail) ?_
       exact q_round (i + 1, (s.item x104).2, x104.f_Index) (by exact ⟨by omega, hfo.2.1, hfo.2.2⟩) (by (try dsimp only); omega) ⟨(by first | rfl | exact vint (by omega)), (by first | rfl | exact vint (by omega)), (by first | rfl | exact vint (by omega)), (by first | rfl | exact vint (by omega)), trivial⟩ (fun w S => S)
      · -- h9F
       have h9b := h9
       try simp only [decide_eq_false_iff_not, Int.not_lt, Int.not_le] at h9
       refine c_exit ?_
       refine q_pass_exit ?_
       refine q_pass_exit ?_
       refine q_hit ?_
       refine q_then ?_
       refine c_seq ?_
       refine c_region ?_
       refine o_assign rfl rfl ?_
       refine l_nil ?_
       refine q_then ?_
       refine c_ret ?_
       refine q_conv (fun w S => S.tail) ?_
       refine q_conv (fun w S => S.tail) ?_
       refine q_conv (fun w S => S.tail) ?_
       refine q_conv (fun w S => S.tail) ?_
       refine q_conv (fun w S => S.tail) ?_
       refine q_conv (fun w S => S.tail) ?_
       refine q_conv (fun w S => S.tail) ?_
       refine q_conv (fun w S => S.tail) ?_
       exact f_ret (r_one rfl rfl) (⟨rfl, rfl⟩) (fun w S => S)
     · -- h8F
      have h8b := h8
      try simp only [decide_eq_true_eq, decide_eq_false_iff_not, Bool.not_eq_eq_eq_not, Bool.not_true, Bool.not_false, Bool.not_eq_true', Bool.not_eq_false', Int.not_lt, Int.not_le, Bool.or_eq_true, Bool.and_eq_true] at h8
      refine h_take_no 10 rfl rfl rfl rfl rfl (by kernel_rfl) (by kernel_rfl) (by kernel_rfl) ?_
      refine h_take_no 11 rfl rfl rfl rfl rfl (by kernel_rfl) (by kernel_rfl) (by kernel_rfl) ?_
      refine h_take_no 12 rfl rfl rfl rfl rfl (by kernel_rfl) (by kernel_rfl) (by kernel_rfl) ?_
      refine h_take_no 13 rfl rfl rfl rfl rfl (by kernel_rfl) (by kernel_rfl) (by kernel_rfl) ?_
      refine h_take_no 14 rfl rfl rfl rfl rfl (by kernel_rfl) (by kernel_rfl) (by kernel_rfl) ?_
      refine h_take_no 15 rfl rfl rfl rfl rfl (by kernel_rfl) (by kernel_rfl) (by kernel_rfl) ?_
      refine h_take_no 16 rfl rfl rfl rfl rfl (by kernel_rfl) (by kernel_rfl) (by kernel_rfl) ?_
      refine h_take_no 17 rfl rfl rfl rfl rfl (by kernel_rfl) (by kernel_rfl) (by kernel_rfl) ?_
      refine h_take_no 18 rfl rfl rfl rfl rfl (by kernel_rfl) (by kernel_rfl) (by kernel_rfl) ?_
      refine h_take_no 19 rfl rfl rfl rfl rfl (by kernel_rfl) (by kernel_rfl) (by kernel_rfl) ?_
      refine h_take_no 20 rfl rfl rfl rfl rfl (by kernel_rfl) (by kernel_rfl) (by kernel_rfl) ?_
      refine h_take_yes 21 rfl rfl rfl rfl rfl (by kernel_rfl) (by kernel_rfl) (by kernel_rfl) (fun L0 => v_pick_false rfl rfl rfl) ?_
      refine h_take 22 rfl rfl (by kernel_rfl) (by kernel_rfl) (by kernel_rfl) (fun L0 => v_pick_false rfl rfl rfl) ?_
      refine h_done (by kernel_rfl) ?_
      refine q_then ?_
      refine c_false rfl ?_
      refine c_skip ?_
      refine q_then ?_
      refine c_seq ?_
      refine c_region ?_
      refine o_move rfl rfl ?_
      refine o_call rfl cal22 rfl (region_ (g := g)) ?_
      rintro _ _ ⟨b97, rfl, rfl⟩
      refine o_assign rfl rfl ?_
      refine l_nil ?_
      refine q_then ?_
      refine c_seq ?_
      refine c_seq ?_
      refine c_region ?_
      refine o_move rfl rfl ?_
      refine o_bin rfl rfl rfl (b_peq Try.underlying56 _) ?_
      refine l_nil ?_
      refine q_then ?_
      refine c_false rfl ?_
      refine c_skip ?_
      refine q_then ?_
      refine c_seq ?_
      refine c_seq ?_
      refine c_region ?_
      refine o_move rfl rfl ?_
      refine o_len rfl rfl Try.underlying27 ?_
      refine o_move rfl rfl ?_
      refine l_nil ?_
      refine q_then ?_
      refine c_block ?_
      refine c_loop (α := Nat × FS × Int) (fun z => [(13, .pointer (some ⟨b97, 0, none⟩)), (100, .slice a41 (ps41).length c41), (101, .int .i64 ((ps41).length : Int)), (102, .int .i64 (z.1 : Int))]) (fun z => FltR b97 z.2.1 :: blk b11 (.cells #[.int .i64 y70.f_Kind, .int .i64 y70.f_Index, .int .i64 y70.ord.f_Tag_Id_Node, .int .u64 y70.ord.f_Tag_Id_Epoch, .int .u64 y70.ord.f_Tag_Id_Seq, .int .i64 y70.ord.f_Tag_Try, .int .i64 y70.ord.f_Txn_Kind, .slice y70.ord.f_Txn_Reads.a (y70.ord.f_Txn_Reads.xs).length y70.ord.f_Txn_Reads.c, .slice y70.ord.f_Txn_Writes.a (y70.ord.f_Txn_Writes.xs).length y70.ord.f_Txn_Writes.c, .slice y70.ord.f_Txn_Ops.a (y70.ord.f_Txn_Ops.xs).length y70.ord.f_Txn_Ops.c, .int .i64 y70.ord.f_Txn_To, .slice y70.ord.f_Marks.a (y70.ord.f_Marks.xs).length y70.ord.f_Marks.c] 42 (0, 0)) :: ordM y70.ord :: row e_Item.T e_Item.sz a41 (ps41).length c41 (flat e_Item ps41) :: itsM ps41 :: row e_Item.T e_Item.sz a38 (ps38).length c38 (flat e_Item ps38) :: itsM ps38 :: F) (fun z => z.1 ≤ ps41.length ∧ Vw z.2.1 g z.2.2 (fun _ => 0) ∧ LastK g log z.1 z.2.2) (fun z => ps41.length - z.1) (0, ⟨g, -1, []⟩, -1) (by exact ⟨Nat.zero_le _, Vw.new g, last_0 _ _⟩) ⟨(by first | rfl | exact vint (by omega)), (by first | rfl | exact vint (by omega)), (by first | rfl | exact vint (by omega)), (by first | rfl | exact vint (by omega)), trivial⟩ (fun w S => S) ?_
      rintro ⟨i, s, l⟩ ⟨hi, hvw, hlk⟩
      try dsimp only at *
      refine c_seq ?_
      refine c_region ?_
      refine o_bin rfl rfl rfl b_lss ?_
      refine l_nil ?_
      refine q_then ?_
      refine c_seq ?_
      refine c_cond rfl (fun h10 => ?_) (fun h10 => ?_)
      · -- h10T
       have h10b := h10
       try simp only [decide_eq_true_eq] at h10
       refine c_skip ?_
       refine q_then ?_
       refine c_seq ?_
       refine c_block ?_
       refine c_seq ?_
       refine c_region ?_
       refine o_index e_Item_ok rfl rfl rfl Try.underlying27 (by omega) (by omega) (rds_own e_Item_ok 3 rfl) fun ad104 ead104 => ?_
       obtain ⟨x104, hx104⟩ : ∃ x, (ps41)[((i : Int)).toNat]? = some x := ⟨_, List.getElem?_eq_getElem (by omega)⟩
       have hfo := flt_on hgo.b hvw hlk hx104
       refine o_loadn (vs := e_Item.cells x104) rfl rfl Try.underlying42 rfl ti42 (rdn_sl e_Item_ok ead104 (rds_own e_Item_ok 3 rfl) hx104) ?_
       refine o_alloc rfl ti42 fun b15 => ?_
       refine o_storen rfl rfl ti42 rfl rfl rfl rfl ?_
       refine l_nil ?_
       refine q_then ?_
       refine c_seq ?_
       refine c_region ?_
       refine o_move rfl rfl ?_
       refine o_loadn (vs := [_, _, _, _, _, _, _, _, _, _, _, _]) rfl rfl Try.underlying42 rfl ti42 (rdn_lit 0 rfl rfl) ?_
       refine l_f1 ?_
       refine o_call rfl cal23 rfl (fitem_ (x := x104) (itsM_R hit_ps41 4 rfl x104 (List.mem_of_getElem? hx104)) (pc_marks hgo.b hsm hx104)) ?_
       rintro _ _ ⟨rfl, rfl⟩
       refine l_eq (t := 108) (v' := .bool true) rfl (show _ = Value.bool true from by rw [hfo.1]) ?_
       refine o_not rfl rfl ?_
       refine l_nil ?_
       refine q_then ?_
       refine c_false rfl ?_
       refine c_skip ?_
       refine q_block ?_
       refine q_then ?_
       refine c_region ?_
       refine o_bin rfl rfl rfl (b_add (wrap_i64 (by omega) (by omega))) ?_
       refine o_move rfl rfl ?_
       refine l_nil ?_
       refine q_conv (fun w S => (S.perm p1).tail) ?_
       exact q_round (i + 1, (s.item x104).2, x104.f_Index) (by exact ⟨by omega, hfo.2.1, hfo.2.2⟩) (by (try dsimp only); omega) ⟨(by first | rfl | exact vint (by omega)), (by first | rfl | exact vint (by omega)), (by first | rfl | exact vint (by omega)), (by first | rfl | exact vint (by omega)), trivial⟩ (fun w S => S)
      · -- h10F
       have h10b := h10
       try simp only [decide_eq_false_iff_not, Int.not_lt, Int.not_le] at h10
       refine c_exit ?_
       refine q_pass_exit ?_
       refine q_pass_exit ?_
       refine q_hit ?_
       refine q_then ?_
       refine c_seq ?_
       refine c_region ?_
       refine o_assign rfl rfl ?_
       refine l_nil ?_
       refine q_then ?_
       refine c_ret ?_
       refine q_conv (fun w S => S.tail) ?_
       refine q_conv (fun w S => S.tail) ?_
       refine q_conv (fun w S => S.tail) ?_
       refine q_conv (fun w S => S.tail) ?_
       refine q_conv (fun w S => S.tail) ?_
       refine q_conv (fun w S => S.tail) ?_
       refine q_conv (fun w S => S.tail) ?_
       exact f_ret (r_one rfl rfl) (⟨rfl, rfl⟩) (fun w S => S)

end Go.Proofs.Yteehongibjkjlaa
