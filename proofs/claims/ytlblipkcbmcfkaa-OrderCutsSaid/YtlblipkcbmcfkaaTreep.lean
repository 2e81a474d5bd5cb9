/- Ordered lists, and how a tree's nodes weave them: the plain law. -/
import Derived.Test.YtlblipkcbmcfkaaIns
set_option linter.unusedVariables false
set_option linter.unusedSimpArgs false
namespace Go.Proofs.Ytlblipkcbmcfkaa
open Go.RowKit Classical
/-! ### Lists in order -/
structure Sto {κ : Type} (lt : κ → κ → Prop) : Prop where
  irr : ∀ a, ¬ lt a a
  tr : ∀ {a b c}, lt a b → lt b c → lt a c
  tri : ∀ {a b}, ¬ lt a b → ¬ lt b a → a = b
section
variable {α κ : Type} {key : α → κ} {lt : κ → κ → Prop}
def Srt (key : α → κ) (lt : κ → κ → Prop) (xs : List α) : Prop := xs.Pairwise fun a b => lt (key a) (key b)
noncomputable def ins (key : α → κ) (lt : κ → κ → Prop) (x : α) : List α → List α
  | [] => [x]
  | y :: ys => if lt (key x) (key y) then x :: y :: ys else if lt (key y) (key x) then y :: ins key lt x ys else x :: ys
theorem ins_pre (o : Sto lt) {x : α} {Z : List α} : ∀ {P : List α}, (∀ p ∈ P, lt (key p) (key x)) → ins key lt x (P ++ Z) = P ++ ins key lt x Z
  | [], _ => rfl
  | p :: P, h => by
    have h1 := h p (by simp)
    rw [List.cons_append, ins, if_neg (fun h2 => o.irr _ (o.tr h1 h2)), if_pos h1, ins_pre o (fun q hq => h q (by simp [hq]))]
    rfl
theorem ins_gt {x : α} {Z : List α} (h : ∀ s ∈ Z, lt (key x) (key s)) : ins key lt x Z = x :: Z := by
  cases Z with
  | nil => rfl
  | cons z Z => rw [ins, if_pos (h z (by simp))]
theorem ins_suf {x : α} {S : List α} (h : ∀ s ∈ S, lt (key x) (key s)) : ∀ (M : List α), ins key lt x (M ++ S) = ins key lt x M ++ S
  | [] => by rw [List.nil_append, ins_gt h]; rfl
  | m :: M => by
    rw [List.cons_append, ins, ins, ins_suf h M]
    split
    · rfl
    · split <;> rfl
theorem ins_mid (o : Sto lt) {x : α} {P M S : List α} (h1 : ∀ p ∈ P, lt (key p) (key x)) (h2 : ∀ s ∈ S, lt (key x) (key s)) : ins key lt x (P ++ (M ++ S)) = P ++ (ins key lt x M ++ S) := by
  rw [ins_pre o h1, ins_suf h2]
theorem ins_eq (o : Sto lt) {x y : α} {P S : List α} (h1 : ∀ p ∈ P, lt (key p) (key x)) (h : key y = key x) : ins key lt x (P ++ y :: S) = P ++ x :: S := by
  rw [ins_pre o h1, ins, if_neg (by rw [h]; exact o.irr _), if_neg (by rw [h]; exact o.irr _)]
theorem mem_ins {x y : α} : ∀ {xs : List α}, y ∈ ins key lt x xs → y = x ∨ y ∈ xs
  | [], h => by simp [ins] at h; exact .inl h
  | z :: zs, h => by
    rw [ins] at h
    split at h
    · simp at h; simpa using h
    · split at h
      · simp at h
        rcases h with h | h
        · exact .inr (by simp [h])
        · rcases mem_ins h with h | h
          · exact .inl h
          · exact .inr (by simp [h])
      · simp at h
        rcases h with h | h
        · exact .inl h
        · exact .inr (by simp [h])
theorem srt_ins (o : Sto lt) {x : α} : ∀ {xs : List α}, Srt key lt xs → Srt key lt (ins key lt x xs)
  | [], _ => by simp [ins, Srt]
  | y :: ys, h => by
    have h' := List.pairwise_cons.1 h
    rw [ins]
    split
    · rename_i h1
      exact List.pairwise_cons.2 ⟨fun z hz => by
        rcases List.mem_cons.1 hz with rfl | hz
        · exact h1
        · exact o.tr h1 (h'.1 z hz), h⟩
    · rename_i h1
      split
      · rename_i h2
        exact List.pairwise_cons.2 ⟨fun z hz => by
          rcases mem_ins hz with rfl | hz
          · exact h2
          · exact h'.1 z hz, srt_ins o h'.2⟩
      · rename_i h2
        have he := o.tri h1 h2
        exact List.pairwise_cons.2 ⟨fun z hz => by rw [he]; exact h'.1 z hz, h'.2⟩
/-! ### Nodes -/
def post : List α → List (List α) → List α
  | [], _ => []
  | i :: its, [] => i :: post its []
  | i :: its, k :: ks => i :: (k ++ post its ks)
def weave : List (List α) → List α → List α
  | [], its => its
  | k :: ks, its => k ++ post its ks
def preW : List (List α) → List α → List α
  | a :: A, c :: C => a ++ c :: preW A C
  | _, _ => []
theorem post_append : ∀ {C : List α} {A : List (List α)} {D : List α} {B : List (List α)}, C.length = A.length → post (C ++ D) (A ++ B) = post C A ++ post D B
  | [], [], D, B, _ => rfl
  | c :: C, a :: A, D, B, h => by
    simp only [List.cons_append, post, List.append_assoc]
    rw [post_append (by simpa using h)]
theorem post_cons {c : α} {Z : List α} {k : List α} {ks : List (List α)} : post (c :: Z) (k :: ks) = c :: weave (k :: ks) Z := rfl
/-- Kid number i in its place. -/
theorem weave_at {k : List α} {B : List (List α)} {D : List α} : ∀ {A : List (List α)} {C : List α}, A.length = C.length → weave (A ++ k :: B) (C ++ D) = preW A C ++ (k ++ post D B)
  | [], [], _ => rfl
  | a :: A, c :: C, h => by
    have ih := weave_at (k := k) (B := B) (D := D) (A := A) (C := C) (by simpa using h)
    cases A with
    | nil =>
      cases C with
      | nil => simp [weave, post, preW]
      | cons c C => simp at h
    | cons a' A' =>
      rw [List.cons_append, List.cons_append]
      show a ++ post (c :: (C ++ D)) (a' :: (A' ++ k :: B)) = _
      rw [post_cons]
      rw [List.cons_append] at ih
      rw [ih]
      simp [preW]
/-- Item number m in its place: the parts left and right of it are nodes, too. -/
theorem weave_item {y : α} {D : List α} {B : List (List α)} {A : List (List α)} {C : List α} (h : (A = [] ∧ B = []) ∨ (A.length = C.length + 1 ∧ B ≠ [])) : weave (A ++ B) (C ++ y :: D) = weave A C ++ y :: weave B D := by
  rcases h with ⟨rfl, rfl⟩ | ⟨h1, h2⟩
  · rfl
  · obtain ⟨b, B, rfl⟩ : ∃ b B', B = b :: B' := by
      cases B with
      | nil => exact absurd rfl h2
      | cons b B => exact ⟨b, B, rfl⟩
    cases A with
    | nil => simp at h1
    | cons a A =>
      show a ++ post (C ++ y :: D) (A ++ b :: B) = (a ++ post C A) ++ y :: (b ++ post D B)
      rw [post_append (by simpa using h1.symm)]
      simp [post]
theorem mem_preW {x : α} : ∀ {A : List (List α)} {C : List α}, A.length = C.length → x ∈ preW A C → Srt key lt (preW A C) → (o : Sto lt) → ∃ c ∈ C, x = c ∨ lt (key x) (key c)
  | [], [], _, h, _, _ => by simp [preW] at h
  | a :: A, c :: C, hl, h, hs, o => by
    simp only [preW] at h hs
    have hs' := List.pairwise_append.1 hs
    have hs2 := List.pairwise_cons.1 hs'.2.1
    rcases List.mem_append.1 h with h | h
    · exact ⟨c, by simp, .inr (hs'.2.2 x h c (by simp))⟩
    · rcases List.mem_cons.1 h with rfl | h
      · exact ⟨x, by simp, .inl rfl⟩
      · obtain ⟨d, hd, hx⟩ := mem_preW (by simpa using hl) h hs2.2 o
        exact ⟨d, by simp [hd], hx⟩
theorem mem_post {x : α} : ∀ {D : List α} {B : List (List α)}, D.length = B.length → x ∈ post D B → Srt key lt (post D B) → ∃ d ∈ D, x = d ∨ lt (key d) (key x)
  | [], [], _, h, _ => by simp [post] at h
  | d :: D, b :: B, hl, h, hs => by
    simp only [post] at h hs
    have hs1 := List.pairwise_cons.1 hs
    rcases List.mem_cons.1 h with rfl | h
    · exact ⟨x, by simp, .inl rfl⟩
    · exact ⟨d, by simp, .inr (hs1.1 x h)⟩
/-- What search has found. -/
structure Found (key : α → κ) (lt : κ → κ → Prop) (k : κ) (items : List α) (i : Nat) : Prop where
  le : i ≤ items.length
  lo : ∀ c ∈ items.take i, lt (key c) k
  hi : ∀ d ∈ items.drop i, ¬ lt (key d) k
theorem Found.gt (o : Sto lt) {k : κ} {items : List α} {i : Nat} (h : Found key lt k items i) (hs : Srt key lt items) (hn : ¬ ∃ y, items[i]? = some y ∧ key y = k) : ∀ d ∈ items.drop i, lt k (key d) := fun d hd => by
  by_cases h1 : lt k (key d)
  · exact h1
  · exfalso
    have he := o.tri h1 (h.hi d hd)
    obtain ⟨j, hj, rfl⟩ := List.mem_iff_getElem.1 hd
    have hj' : i + j < items.length := by rw [List.length_drop] at hj; omega
    rw [List.getElem_drop] at he
    cases j with
    | zero => exact hn ⟨items[i], List.getElem?_eq_getElem (by omega), he.symm⟩
    | succ j =>
      have h2 := (List.pairwise_iff_getElem.1 hs) i (i + (j + 1)) (by omega) hj' (by omega)
      rw [← he] at h2
      have h3 := h.hi items[i] (by rw [List.mem_iff_getElem]; exact ⟨0, by rw [List.length_drop]; omega, by simp⟩)
      exact h3 h2
theorem take_get {β : Type} {xs : List β} {i : Nat} {x : β} (h : xs[i]? = some x) : xs = xs.take i ++ x :: xs.drop (i + 1) := by
  obtain ⟨hi, hx⟩ := List.getElem?_eq_some_iff.1 h
  conv => lhs; rw [← List.take_append_drop i xs, List.drop_eq_getElem_cons hi, hx]
theorem srt_items (o : Sto lt) {kids : List (List α)} {items : List α} (h : kids = [] ∨ kids.length = items.length + 1) (hs : Srt key lt (weave kids items)) : Srt key lt items := by
  refine List.Pairwise.sublist ?_ hs
  cases kids with
  | nil => exact List.Sublist.refl _
  | cons k ks =>
    have hl : items.length = ks.length := by
      rcases h with h | h
      · cases h
      · simpa using h.symm
    show List.Sublist items (k ++ post items ks)
    refine List.Sublist.trans ?_ (List.sublist_append_right k _)
    clear hs h
    induction items generalizing ks with
    | nil => exact List.nil_sublist _
    | cons i its ih =>
      cases ks with
      | nil => simp at hl
      | cons q ks => exact List.Sublist.cons_cons _ ((ih ks (by simpa using hl)).trans (List.sublist_append_right q _))
/-- Put into kid number i. -/
theorem ins_kid (o : Sto lt) {x : α} {kids : List (List α)} {items : List α} {i : Nat} {k : List α} (hl : kids.length = items.length + 1) (hk : kids[i]? = some k) (hf : Found key lt (key x) items i) (hg : ∀ d ∈ items.drop i, lt (key x) (key d)) (hs : Srt key lt (weave kids items)) :
    ins key lt x (weave kids items) = preW (kids.take i) (items.take i) ++ (ins key lt x k ++ post (items.drop i) (kids.drop (i + 1))) := by
  have hi := hf.le
  have e1 := take_get hk
  have e2 : items = items.take i ++ items.drop i := (List.take_append_drop i items).symm
  have hw : weave kids items = preW (kids.take i) (items.take i) ++ (k ++ post (items.drop i) (kids.drop (i + 1))) := by
    conv => lhs; rw [e1, e2]
    exact weave_at (by rw [List.length_take, List.length_take]; omega)
  rw [hw] at hs ⊢
  have hs' := List.pairwise_append.1 hs
  refine ins_mid o (fun p hp => ?_) (fun s hsx => ?_)
  · obtain ⟨c, hc, h9⟩ := mem_preW (by rw [List.length_take, List.length_take]; omega) hp hs'.1 o
    rcases h9 with rfl | h9
    · exact hf.lo p hc
    · exact o.tr h9 (hf.lo c hc)
  · obtain ⟨d, hd, h9⟩ := mem_post (by rw [List.length_drop, List.length_drop]; omega) hsx (List.pairwise_append.1 hs'.2.1).2.1
    rcases h9 with rfl | h9
    · exact hg s hd
    · exact o.tr (hg d hd) h9
/-- The key was there: its item is turned. -/
theorem ins_item (o : Sto lt) {x y : α} {kids : List (List α)} {items : List α} {i : Nat} (hl : kids = [] ∨ kids.length = items.length + 1) (hy : items[i]? = some y) (he : key y = key x) (hs : Srt key lt (weave kids items)) :
    ins key lt x (weave kids items) = weave kids (items.set i x) := by
  have hi := (List.getElem?_eq_some_iff.1 hy).1
  have e2 := take_get hy
  have hA : (kids.take (i + 1) = [] ∧ kids.drop (i + 1) = []) ∨ ((kids.take (i + 1)).length = (items.take i).length + 1 ∧ kids.drop (i + 1) ≠ []) := by
    rcases hl with rfl | hl
    · exact .inl ⟨by simp, by simp⟩
    · refine .inr ⟨by rw [List.length_take, List.length_take]; omega, fun h0 => ?_⟩
      have := congrArg List.length h0
      rw [List.length_drop, List.length_nil] at this; omega
  have hset : items.set i x = items.take i ++ x :: items.drop (i + 1) := by rw [List.set_eq_take_append_cons_drop, if_pos hi]
  have hw : weave kids items = weave (kids.take (i + 1)) (items.take i) ++ y :: weave (kids.drop (i + 1)) (items.drop (i + 1)) := by
    conv => lhs; rw [← List.take_append_drop (i + 1) kids, e2]
    exact weave_item hA
  rw [hset, hw]
  rw [hw] at hs
  rw [ins_eq o (fun p hp => by rw [← he]; exact (List.pairwise_append.1 hs).2.2 p hp y (by simp)) he]
  conv => rhs; rw [← List.take_append_drop (i + 1) kids]
  exact (weave_item hA).symm
/-! ### Searching -/
noncomputable def cmpN (lt : κ → κ → Prop) (a b : κ) : Int := if lt a b then -1 else if lt b a then 1 else 0
theorem cmpN_neg {a b : κ} : cmpN lt a b < 0 ↔ lt a b := by
  unfold cmpN
  split
  · rename_i h; exact ⟨fun _ => h, fun _ => by decide⟩
  · rename_i h
    split
    · exact ⟨fun h9 => absurd h9 (by decide), fun h9 => absurd h9 h⟩
    · exact ⟨fun h9 => absurd h9 (by decide), fun h9 => absurd h9 h⟩
theorem cmpN_eq (o : Sto lt) {a b : κ} : cmpN lt a b = 0 ↔ a = b := by
  unfold cmpN
  split
  · rename_i h; exact ⟨fun h9 => absurd h9 (by decide), fun h9 => absurd (h9 ▸ h) (o.irr _)⟩
  · rename_i h
    split
    · rename_i h2; exact ⟨fun h9 => absurd h9 (by decide), fun h9 => absurd (h9 ▸ h2) (o.irr _)⟩
    · rename_i h2; exact ⟨fun _ => o.tri h h2, fun _ => rfl⟩
theorem lo_on (o : Sto lt) {xs : List α} {x : α} {h : Nat} {k : κ} (hs : Srt key lt xs) (hx : xs[h]? = some x) (hl : lt (key x) k) : ∀ c ∈ xs.take (h + 1), lt (key c) k := fun c hc => by
  obtain ⟨hh, rfl⟩ := List.getElem?_eq_some_iff.1 hx
  obtain ⟨j, hj, rfl⟩ := List.mem_iff_getElem.1 hc
  rw [List.length_take] at hj
  rw [List.getElem_take]
  by_cases e : j = h
  · subst e; exact hl
  · exact o.tr ((List.pairwise_iff_getElem.1 hs) j h (by omega) hh (by omega)) hl
theorem hi_on (o : Sto lt) {xs : List α} {x : α} {h : Nat} {k : κ} (hs : Srt key lt xs) (hx : xs[h]? = some x) (hl : ¬ lt (key x) k) : ∀ d ∈ xs.drop h, ¬ lt (key d) k := fun d hd => by
  obtain ⟨hh, rfl⟩ := List.getElem?_eq_some_iff.1 hx
  obtain ⟨j, hj, rfl⟩ := List.mem_iff_getElem.1 hd
  rw [List.length_drop] at hj
  rw [List.getElem_drop]
  intro h9
  by_cases e : j = 0
  · subst e; exact hl h9
  · exact hl (o.tr ((List.pairwise_iff_getElem.1 hs) h (h + j) hh (by omega) (by omega)) h9)
/-! ### Nodes are parted -/
theorem weave_part {kids : List (List α)} {items : List α} {m : Nat} {y : α} (hl : kids = [] ∨ kids.length = items.length + 1) (hy : items[m]? = some y) :
    weave kids items = weave (kids.take (m + 1)) (items.take m) ++ y :: weave (kids.drop (m + 1)) (items.drop (m + 1)) := by
  have hi := (List.getElem?_eq_some_iff.1 hy).1
  have hA : (kids.take (m + 1) = [] ∧ kids.drop (m + 1) = []) ∨ ((kids.take (m + 1)).length = (items.take m).length + 1 ∧ kids.drop (m + 1) ≠ []) := by
    rcases hl with rfl | hl
    · exact .inl ⟨by simp, by simp⟩
    · refine .inr ⟨by rw [List.length_take, List.length_take]; omega, fun h0 => ?_⟩
      have := congrArg List.length h0
      rw [List.length_drop, List.length_nil] at this; omega
  conv => lhs; rw [← List.take_append_drop (m + 1) kids, take_get hy]
  exact weave_item hA
theorem weave_set {k : List α} {kids : List (List α)} {items : List α} {i : Nat} (hl : kids.length = items.length + 1) (hi : i ≤ items.length) :
    weave (kids.set i k) items = preW (kids.take i) (items.take i) ++ (k ++ post (items.drop i) (kids.drop (i + 1))) := by
  rw [List.set_eq_take_append_cons_drop, if_pos (by omega)]
  conv => lhs; rw [← List.take_append_drop i items]
  exact weave_at (by rw [List.length_take, List.length_take]; omega)
theorem weave_two {ls rs : List α} {m : α} {kids : List (List α)} {items : List α} {i : Nat} (hl : kids.length = items.length + 1) (hi : i ≤ items.length) :
    weave (kids.take i ++ ls :: rs :: kids.drop (i + 1)) (items.take i ++ m :: items.drop i) = preW (kids.take i) (items.take i) ++ ((ls ++ m :: rs) ++ post (items.drop i) (kids.drop (i + 1))) := by
  rw [weave_at (by rw [List.length_take, List.length_take]; omega)]
  simp [post]
end
/-! ### The keys' orders -/
theorem bl_irr : ∀ a : List UInt8, Go.Op.bytesLess a a = false
  | [] => rfl
  | x :: a => by
    have hx : ¬ x < x := by rw [UInt8.lt_iff_toNat_lt]; omega
    simp [Go.Op.bytesLess, bl_irr a, hx]
theorem bl_tr : ∀ {a b c : List UInt8}, Go.Op.bytesLess a b = true → Go.Op.bytesLess b c = true → Go.Op.bytesLess a c = true
  | _, [], _, h, _ => by simp [Go.Op.bytesLess] at h
  | _, _ :: _, [], _, h => by simp [Go.Op.bytesLess] at h
  | [], _ :: _, _ :: _, _, _ => rfl
  | x :: a, y :: b, z :: c, h1, h2 => by
    simp only [Go.Op.bytesLess, Bool.or_eq_true, Bool.and_eq_true, decide_eq_true_eq, beq_iff_eq] at h1 h2 ⊢
    rw [UInt8.lt_iff_toNat_lt] at h1 h2 ⊢
    rcases h1 with h1 | ⟨rfl, h1⟩
    · rcases h2 with h2 | ⟨rfl, h2⟩
      · exact .inl (by omega)
      · exact .inl h1
    · rcases h2 with h2 | ⟨rfl, h2⟩
      · exact .inl h2
      · exact .inr ⟨rfl, bl_tr h1 h2⟩
theorem bl_tri : ∀ {a b : List UInt8}, Go.Op.bytesLess a b = false → Go.Op.bytesLess b a = false → a = b
  | [], [], _, _ => rfl
  | [], _ :: _, h, _ => by simp [Go.Op.bytesLess] at h
  | _ :: _, [], _, h => by simp [Go.Op.bytesLess] at h
  | x :: a, y :: b, h1, h2 => by
    simp only [Go.Op.bytesLess, Bool.or_eq_false_iff, Bool.and_eq_false_iff, decide_eq_false_iff_not, beq_eq_false_iff_ne] at h1 h2
    rw [UInt8.lt_iff_toNat_lt] at h1 h2
    have hxy : x = y := UInt8.toNat_inj.1 (by omega)
    subst hxy
    rw [bl_tri (h1.2.resolve_left (by simp)) (h2.2.resolve_left (by simp))]
def strlt (a b : ByteArray) : Prop := slt a b = true
theorem ba_ext {a b : ByteArray} (h : a.data.toList = b.data.toList) : a = b := by
  cases a; cases b
  simp at h
  rw [h]
theorem strlt_tri {a b : ByteArray} (h1 : ¬ strlt a b) (h2 : ¬ strlt b a) : a = b := by
  unfold strlt slt at h1 h2
  exact ba_ext (bl_tri (by simpa using h1) (by simpa using h2))
theorem strlt_sto : Sto strlt := ⟨fun a h => (by unfold strlt slt at h; rw [bl_irr] at h; cases h), fun h1 h2 => bl_tr h1 h2, strlt_tri⟩
theorem slt_not {a b : ByteArray} : (!(slt a b || decide (a = b))) = slt b a := by
  rw [Bool.eq_iff_iff]
  simp only [Bool.not_eq_true', Bool.or_eq_false_iff, decide_eq_false_iff_not]
  constructor
  · rintro ⟨h1, h2⟩
    exact Classical.byContradiction fun h3 => h2 (strlt_sto.tri (a := a) (b := b) (by unfold strlt; rw [h1]; simp) h3)
  · intro h
    refine ⟨?_, fun h2 => ?_⟩
    · cases h1 : slt a b with
      | false => rfl
      | true => exact absurd (strlt_sto.tr (a := a) (b := b) (c := a) h1 h) (strlt_sto.irr a)
    · subst h2; exact strlt_sto.irr a h
theorem b_sgtr {P : Go.Program} {t : Go.TypeId} {x y : Go.Operand} {s u : ByteArray} : BinV P .gtr t x y (.string s) (.string u) (.bool (slt u s)) := fun w => by
  have h9 : (s.data == u.data) = decide (s = u) := by
    rw [Bool.eq_iff_iff]
    simp only [beq_iff_eq, decide_eq_true_eq]
    exact ⟨fun h => by cases s; cases u; simp at h; rw [h], fun h => by rw [h]⟩
  rw [← slt_not]
  simp [Go.eqGuard, Go.binOp, Go.Op.stringOp, toList_eq_iff, slt, ByteArray.toList_eq, h9]
abbrev ilt : Int → Int → Prop := fun a b => a < b
theorem shr1u (m : Nat) : ((m : Nat) : Int).fdiv (2 ^ (min (1 : Int).toNat IntKind.u64.bits)) = ((m / 2 : Nat) : Int) := by
  show Int.fdiv _ 2 = _
  rw [Int.fdiv_eq_ediv_of_nonneg _ (by omega)]; omega
theorem vtrue {p : Prop} {i : Decidable p} (h : p) : Go.Value.bool true = Go.Value.bool (@decide p i) := by rw [decide_eq_true h]
theorem vfalse {p : Prop} {i : Decidable p} (h : ¬ p) : Go.Value.bool false = Go.Value.bool (@decide p i) := by rw [decide_eq_false h]
theorem ilt_sto : Sto ilt := ⟨fun a h => by omega, fun h1 h2 => by omega, fun h1 h2 => by omega⟩
end Go.Proofs.Ytlblipkcbmcfkaa
