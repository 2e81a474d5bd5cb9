/- Trees in memory: nodes as resources, by their depth. -/
import Derived.Test.YtlblipkcbmcfkaaTreep
set_option linter.unusedVariables false
set_option linter.unusedSimpArgs false
namespace Go.Proofs.Ytlblipkcbmcfkaa
open Go.RowKit Classical
structure NodeW (α : Type) where
  a : Option Addr
  c : Nat
  ak : Option Addr
  ck : Nat
  items : List α
  kids : List (Nat × List α)
section
variable {α κ β : Type} {key : α → κ} {lt : κ → κ → Prop} {val : α → β} {zero : β} (eI : Enc α) (eK : Enc Nat) (TN : Nat)
def Shape (d : Nat) (items : List α) (kids : List (Nat × List α)) : Prop := (d = 0 ∧ kids = []) ∨ (d ≠ 0 ∧ kids.length = items.length + 1 ∧ 1 ≤ items.length)
structure okN (mn d : Nat) (q : NodeW α) (xs : List α) : Prop where
  mn : mn ≤ q.items.length
  le : q.items.length ≤ 5
  is : xs = weave (q.kids.map Prod.snd) q.items
  sh : Shape d q.items q.kids
def nodeL (b : Nat) (q : NodeW α) (Ks : List Res) : List Res :=
  [blk b (.cells #[.slice q.a q.items.length q.c, .slice q.ak (q.kids.map Prod.fst).length q.ck] TN (0, 0)), row eI.T eI.sz q.a q.items.length q.c (flat eI q.items), row eK.T eK.sz q.ak (q.kids.map Prod.fst).length q.ck (flat eK (q.kids.map Prod.fst)), stars Ks]
def nodeR : Nat → Nat → Nat → List α → Res
  | 0, mn, b, xs => obj (fun q => okN mn 0 q xs) (fun q => nodeL eI eK TN b q (q.kids.map fun _ => emp))
  | d + 1, mn, b, xs => obj (fun q => okN mn (d + 1) q xs) (fun q => nodeL eI eK TN b q (q.kids.map fun k => nodeR d 2 k.1 k.2))
def kidR : Nat → Nat × List α → Res
  | 0, _ => emp
  | d + 1, k => nodeR eI eK TN d 2 k.1 k.2
def kidsR (d : Nat) (ks : List (Nat × List α)) : Res := stars (ks.map (kidR eI eK TN d))
theorem nodeR_eq (d mn b : Nat) (xs : List α) : nodeR eI eK TN d mn b xs = obj (fun q => okN mn d q xs) (fun q => nodeL eI eK TN b q (q.kids.map (kidR eI eK TN d))) := by cases d <;> rfl
variable {eI eK TN} {P : Program} {N : FN} {l : Fr} {W w : World} {L : List Res} {Q : Exit → Act → World → Prop} {ops : Array Oper} {rest : List Oper} {cd : Code} {d mn b : Nat} {xs : List α}
theorem nodeOpen (S : Sat W w (nodeR eI eK TN d mn b xs :: L)) : ∃ q : NodeW α, okN mn d q xs ∧ Sat W w (blk b (.cells #[.slice q.a q.items.length q.c, .slice q.ak (q.kids.map Prod.fst).length q.ck] TN (0, 0)) :: row eI.T eI.sz q.a q.items.length q.c (flat eI q.items) :: row eK.T eK.sz q.ak (q.kids.map Prod.fst).length q.ck (flat eK (q.kids.map Prod.fst)) :: kidsR eI eK TN d q.kids :: L) := by
  rw [nodeR_eq] at S
  obtain ⟨q, hq, S'⟩ := S.obj_open
  exact ⟨q, hq, S'⟩
theorem nodeMk (q : NodeW α) (hq : okN mn d q xs) (S : Sat W w (blk b (.cells #[.slice q.a q.items.length q.c, .slice q.ak (q.kids.map Prod.fst).length q.ck] TN (0, 0)) :: row eI.T eI.sz q.a q.items.length q.c (flat eI q.items) :: row eK.T eK.sz q.ak (q.kids.map Prod.fst).length q.ck (flat eK (q.kids.map Prod.fst)) :: kidsR eI eK TN d q.kids :: L)) : Sat W w (nodeR eI eK TN d mn b xs :: L) := by
  rw [nodeR_eq]
  exact Sat.obj_mk q hq S
theorem c_node (h : ∀ q : NodeW α, okN mn d q xs → WC P cd Q N l W (blk b (.cells #[.slice q.a q.items.length q.c, .slice q.ak (q.kids.map Prod.fst).length q.ck] TN (0, 0)) :: row eI.T eI.sz q.a q.items.length q.c (flat eI q.items) :: row eK.T eK.sz q.ak (q.kids.map Prod.fst).length q.ck (flat eK (q.kids.map Prod.fst)) :: kidsR eI eK TN d q.kids :: L)) : WC P cd Q N l W (nodeR eI eK TN d mn b xs :: L) := fun a w K S =>
  let ⟨q, hq, S'⟩ := nodeOpen S; h q hq a w K S'
theorem l_node (h : ∀ q : NodeW α, okN mn d q xs → WL P ops Q rest N l W (blk b (.cells #[.slice q.a q.items.length q.c, .slice q.ak (q.kids.map Prod.fst).length q.ck] TN (0, 0)) :: row eI.T eI.sz q.a q.items.length q.c (flat eI q.items) :: row eK.T eK.sz q.ak (q.kids.map Prod.fst).length q.ck (flat eK (q.kids.map Prod.fst)) :: kidsR eI eK TN d q.kids :: L)) : WL P ops Q rest N l W (nodeR eI eK TN d mn b xs :: L) := fun a w K S =>
  let ⟨q, hq, S'⟩ := nodeOpen S; h q hq a w K S'
theorem Sat.stars_perm {Rs Rs' : List Res} (h : Rs.Perm Rs') (S : Sat W w (stars Rs :: L)) : Sat W w (stars Rs' :: L) := (S.flat.perm (h.append_right L)).unflat
theorem Sat.stars_two {A B : List Res} (S : Sat W w (stars (A ++ B) :: L)) : Sat W w (stars A :: stars B :: L) := by
  have h := S.flat
  rw [List.append_assoc] at h
  have h2 : Sat W w (B ++ (stars A :: L)) := (Sat.unflat (Ls := A) h).perm (List.perm_middle.symm : (stars A :: (B ++ L)).Perm (B ++ stars A :: L))
  exact (h2.unflat).perm (List.Perm.swap _ _ _)
theorem Sat.kids_part {ks : List (Nat × List α)} (m : Nat) (S : Sat W w (kidsR eI eK TN d ks :: L)) : Sat W w (kidsR eI eK TN d (ks.take m) :: kidsR eI eK TN d (ks.drop m) :: L) := by
  refine Sat.stars_two ?_
  rw [← List.map_append, List.take_append_drop]
  exact S
theorem erase_perm {β : Type} {ks : List β} {i : Nat} {k : β} (hk : ks[i]? = some k) : (k :: ks.eraseIdx i).Perm ks := by
  have h := take_get hk
  rw [List.eraseIdx_eq_take_drop_succ]
  conv => rhs; rw [h]
  exact List.perm_middle.symm
theorem set_perm {β : Type} {ks : List β} {i : Nat} {k : β} (hi : i < ks.length) : (ks.set i k).Perm (k :: ks.eraseIdx i) := by
  rw [List.set_eq_take_append_cons_drop, if_pos hi, List.eraseIdx_eq_take_drop_succ]
  exact List.perm_middle
theorem Sat.kid_take {ks : List (Nat × List α)} {i : Nat} {k : Nat × List α} (hk : ks[i]? = some k) (S : Sat W w (kidsR eI eK TN d ks :: L)) : Sat W w (kidR eI eK TN d k :: kidsR eI eK TN d (ks.eraseIdx i) :: L) := by
  have hp := erase_perm hk
  exact Sat.stars_cons (Rs := (ks.eraseIdx i).map (kidR eI eK TN d)) (S.stars_perm (hp.symm.map (kidR eI eK TN d)))
theorem Sat.kid_back {ks : List (Nat × List α)} {i : Nat} {k : Nat × List α} (hk : ks[i]? = some k) (S : Sat W w (kidR eI eK TN d k :: kidsR eI eK TN d (ks.eraseIdx i) :: L)) : Sat W w (kidsR eI eK TN d ks :: L) :=
  (Sat.stars_uncons S).stars_perm ((erase_perm hk).map (kidR eI eK TN d))
theorem Sat.kid_set {ks : List (Nat × List α)} {i : Nat} {k : Nat × List α} (hi : i < ks.length) (S : Sat W w (kidR eI eK TN d k :: kidsR eI eK TN d (ks.eraseIdx i) :: L)) : Sat W w (kidsR eI eK TN d (ks.set i k) :: L) := by
  have hp := set_perm (k := k) hi
  exact (Sat.stars_uncons S).stars_perm ((hp.symm).map (kidR eI eK TN d))
theorem Sat.kid_two {ks : List (Nat × List α)} {i : Nat} {k k2 : Nat × List α} (hi : i < ks.length) (S : Sat W w (kidR eI eK TN d k :: kidR eI eK TN d k2 :: kidsR eI eK TN d (ks.eraseIdx i) :: L)) : Sat W w (kidsR eI eK TN d (ks.take i ++ k :: k2 :: ks.drop (i + 1)) :: L) := by
  have S1 := (Sat.stars_uncons (S.perm (List.Perm.swap _ _ _)).tail)
  have S2 : Sat W w (stars (((k :: k2 :: ks.eraseIdx i)).map (kidR eI eK TN d)) :: L) := by
    have := Sat.stars_uncons ((S.perm (List.Perm.refl _) : Sat W w (kidR eI eK TN d k :: kidR eI eK TN d k2 :: kidsR eI eK TN d (ks.eraseIdx i) :: L)).conv (L' := kidR eI eK TN d k :: stars (kidR eI eK TN d k2 :: (ks.eraseIdx i).map (kidR eI eK TN d)) :: L) fun h hs => ?_)
    · exact this
    · exact star_mono (fun _ x => x) (fun _ x => star_assoc.2 x) hs
  refine S2.stars_perm (List.Perm.map _ ?_)
  rw [List.eraseIdx_eq_take_drop_succ]
  exact ((List.perm_middle (a := k2)).symm.cons k).trans (List.perm_middle (a := k)).symm
/-- What put may hand up: the middle item, the node right of it. -/
def midR (eI : Enc α) (eK : Enc Nat) (TN : Nat) (d : Nat) : Option (Nat × α × Nat × List α) → Res
  | none => emp
  | some z => stars [blk z.1 (.cells (eI.cells z.2.1).toArray eI.T (0, 0)), nodeR eI eK TN d 2 z.2.2.1 z.2.2.2]
def insS (ls : List α) : Option (Nat × α × Nat × List α) → List α
  | none => ls
  | some z => ls ++ z.2.1 :: z.2.2.2
def mnO (mn : Nat) : Option (Nat × α × Nat × List α) → Nat
  | none => mn
  | some _ => 2
structure Old (key : α → κ) (val : α → β) (zero : β) (x : α) (xs : List α) (old : β) (had : Bool) : Prop where
  hadI : had = true ↔ ∃ y ∈ xs, key y = key x
  old1 : ∀ y ∈ xs, key y = key x → old = val y
  old0 : had = false → old = zero
structure PutMid (key : α → κ) (lt : κ → κ → Prop) (val : α → β) (zero : β) (d mn : Nat) (x : α) (xs items : List α) (kids : List (Nat × List α)) (old : β) (had : Bool) : Prop where
  mn : mn ≤ items.length
  le : items.length ≤ 6
  is : ins key lt x xs = weave (kids.map Prod.snd) items
  sh : Shape d items kids
  old : Old key val zero x xs old had
theorem Shape.or {items : List α} {kids : List (Nat × List α)} (h : Shape d items kids) : kids.map Prod.snd = [] ∨ (kids.map Prod.snd).length = items.length + 1 := by
  rcases h with ⟨_, h⟩ | ⟨_, h, _⟩
  · exact .inl (by rw [h]; rfl)
  · exact .inr (by rw [List.length_map]; exact h)
theorem okN.srt (o : Sto lt) {q : NodeW α} (h : okN mn d q xs) (hs : Srt key lt xs) : Srt key lt q.items := by
  have h1 := hs
  rw [h.is] at h1
  exact srt_items o h.sh.or h1
theorem mem_weave_item {kids : List (List α)} {items : List α} {i : Nat} {y : α} (hl : kids = [] ∨ kids.length = items.length + 1) (hy : items[i]? = some y) : y ∈ weave kids items := by
  rw [weave_part hl hy]; simp
/-- One key stands once. -/
theorem srt_uniq (o : Sto lt) (hs : Srt key lt xs) {y z : α} (hy : y ∈ xs) (hz : z ∈ xs) (h : key y = key z) : y = z := by
  obtain ⟨i, hi, rfl⟩ := List.mem_iff_getElem.1 hy
  obtain ⟨j, hj, rfl⟩ := List.mem_iff_getElem.1 hz
  rcases Nat.lt_trichotomy i j with h1 | h1 | h1
  · exact absurd ((List.pairwise_iff_getElem.1 hs) i j hi hj h1) (by rw [h]; exact o.irr _)
  · subst h1; rfl
  · exact absurd ((List.pairwise_iff_getElem.1 hs) j i hj hi h1) (by rw [h]; exact o.irr _)
/-- put: the key was there. -/
theorem put_found (o : Sto lt) {q : NodeW α} (h : okN mn d q xs) (hs : Srt key lt xs) {x y y2 : α} {i : Nat} (hy : q.items[i]? = some y) (he : key y = key x) (h2 : y2 = x) (a : Option Addr) (c : Nat) : okN mn d ⟨a, c, q.ak, q.ck, q.items.set i y2, q.kids⟩ (ins key lt x xs) ∧ Old key val zero x xs (val y) true := by
  subst h2
  have hs' := hs
  rw [h.is] at hs'
  have hsh := h.sh
  refine ⟨⟨by rw [List.length_set]; exact h.mn, by rw [List.length_set]; exact h.le, ?_, by unfold Shape at *; rw [List.length_set]; exact hsh⟩, ⟨⟨fun _ => ⟨y, ?_, he⟩, fun _ => rfl⟩, fun z hz hk => ?_, fun h => by cases h⟩⟩
  · rw [h.is]; exact ins_item o hsh.or hy he hs'
  · rw [h.is]; exact mem_weave_item hsh.or hy
  · have hy' : y ∈ xs := by rw [h.is]; exact mem_weave_item hsh.or hy
    rw [srt_uniq o hs hy' hz (he.trans hk.symm)]
/-- put: into a leaf. -/
theorem put_leaf (o : Sto lt) {q : NodeW α} (h : okN mn d q xs) (hs : Srt key lt xs) {x : α} {i : Nat} (hk : (q.kids.map Prod.fst).length = 0) (hf : Found key lt (key x) q.items i) (hn : ¬ ∃ y, q.items[i]? = some y ∧ key y = key x) :
    PutMid key lt val zero d mn x xs (q.items.take i ++ x :: q.items.drop i) q.kids zero false := by
  have hk' : q.kids = [] := List.eq_nil_of_length_eq_zero (by rwa [List.length_map] at hk)
  have hsi := h.srt o hs
  have hg := hf.gt o hsi hn
  have hx : xs = q.items := by rw [h.is, hk']; rfl
  have hlen : (q.items.take i ++ x :: q.items.drop i).length = q.items.length + 1 := by
    have := hf.le
    rw [List.length_append, List.length_take, List.length_cons, List.length_drop]; omega
  have hne : ∀ y ∈ xs, key y ≠ key x := fun y hy he => by
    rw [hx, ← List.take_append_drop i q.items] at hy
    rcases List.mem_append.1 hy with hy | hy
    · exact o.irr _ (he ▸ hf.lo y hy)
    · exact o.irr _ (he ▸ hg y hy)
  refine ⟨by rw [hlen]; have := h.mn; omega, by rw [hlen]; have := h.le; omega, ?_, ?_, ⟨⟨fun h9 => (by cases h9), fun ⟨y, hy, he⟩ => absurd he (hne y hy)⟩, fun y hy he => absurd he (hne y hy), fun _ => rfl⟩⟩
  · rw [hx, hk']
    show _ = q.items.take i ++ x :: q.items.drop i
    conv => lhs; rw [← List.take_append_drop i q.items]
    rw [ins_pre o hf.lo, ins_gt hg]
  · rcases h.sh with ⟨h1, _⟩ | ⟨_, h1, _⟩
    · exact .inl ⟨h1, hk'⟩
    · rw [hk'] at h1; simp at h1
/-- put: the parts of a node around kid number i. -/
theorem kid_parts (o : Sto lt) {q : NodeW α} (h : okN mn d q xs) (hs : Srt key lt xs) {x : α} {i : Nat} {kb : Nat} {ys : List α} (hk : q.kids[i]? = some (kb, ys)) (hf : Found key lt (key x) q.items i) (hn : ¬ ∃ y, q.items[i]? = some y ∧ key y = key x) :
    ∃ A B, xs = A ++ (ys ++ B) ∧ A = preW ((q.kids.map Prod.snd).take i) (q.items.take i) ∧ B = post (q.items.drop i) ((q.kids.map Prod.snd).drop (i + 1)) ∧ (∀ p ∈ A, lt (key p) (key x)) ∧ (∀ s ∈ B, lt (key x) (key s)) ∧ q.kids.length = q.items.length + 1 ∧ d ≠ 0 ∧ Srt key lt ys := by
  have hi := (List.getElem?_eq_some_iff.1 hk).1
  obtain ⟨hd, hl⟩ : d ≠ 0 ∧ q.kids.length = q.items.length + 1 := by
    rcases h.sh with ⟨_, h1⟩ | ⟨h0, h1, _⟩
    · rw [h1] at hi; simp at hi
    · exact ⟨h0, h1⟩
  have hle := hf.le
  have hl2 : (q.kids.map Prod.snd).length = q.items.length + 1 := by rw [List.length_map]; exact hl
  have hk2 : (q.kids.map Prod.snd)[i]? = some ys := by rw [List.getElem?_map, hk]; rfl
  have hg := hf.gt o (h.srt o hs) hn
  have hw : xs = preW ((q.kids.map Prod.snd).take i) (q.items.take i) ++ (ys ++ post (q.items.drop i) ((q.kids.map Prod.snd).drop (i + 1))) := by
    rw [h.is]
    conv => lhs; rw [take_get hk2, ← List.take_append_drop i q.items]
    exact weave_at (by rw [List.length_take, List.length_take]; omega)
  have hs' := hs
  rw [hw] at hs'
  have hsp := List.pairwise_append.1 hs'
  have hsq := List.pairwise_append.1 hsp.2.1
  refine ⟨_, _, hw, rfl, rfl, fun p hp => ?_, fun s hsx => ?_, hl, hd, hsq.1⟩
  · obtain ⟨c, hc, h9⟩ := mem_preW (by rw [List.length_take, List.length_take]; omega) hp hsp.1 o
    rcases h9 with rfl | h9
    · exact hf.lo p hc
    · exact o.tr h9 (hf.lo c hc)
  · obtain ⟨e, he, h9⟩ := mem_post (by rw [List.length_drop, List.length_drop]; omega) hsx hsq.2.1
    rcases h9 with rfl | h9
    · exact hg s he
    · exact o.tr (hg e he) h9
theorem Old.up (o : Sto lt) {x : α} {A ys B : List α} {old : β} {had : Bool} (h : Old key val zero x ys old had) (hA : ∀ p ∈ A, lt (key p) (key x)) (hB : ∀ s ∈ B, lt (key x) (key s)) : Old key val zero x (A ++ (ys ++ B)) old had := by
  have hin : ∀ y ∈ A ++ (ys ++ B), key y = key x → y ∈ ys := fun y hy he => by
    rcases List.mem_append.1 hy with hy | hy
    · exact absurd (he ▸ hA y hy) (o.irr _)
    · rcases List.mem_append.1 hy with hy | hy
      · exact hy
      · exact absurd (he ▸ hB y hy) (o.irr _)
  exact ⟨h.hadI.trans ⟨fun ⟨y, hy, he⟩ => ⟨y, by simp [hy], he⟩, fun ⟨y, hy, he⟩ => ⟨y, hin y hy he, he⟩⟩, fun y hy he => h.old1 y (hin y hy he) he, h.old0⟩
/-- put: into kid number i, which holds all. -/
theorem put_kid (o : Sto lt) {q : NodeW α} (h : okN mn d q xs) (hs : Srt key lt xs) {x : α} {i kb : Nat} {ys ls : List α} {old : β} {had : Bool} (hk : q.kids[i]? = some (kb, ys)) (hf : Found key lt (key x) q.items i) (hn : ¬ ∃ y, q.items[i]? = some y ∧ key y = key x) (hi : ins key lt x ys = ls) (ho : Old key val zero x ys old had) :
    PutMid key lt val zero d mn x xs q.items (q.kids.set i (kb, ls)) old had := by
  obtain ⟨A, B, hx, hA, hB, h1, h2, hl, hd, _⟩ := kid_parts o h hs hk hf hn
  have hl2 : (q.kids.map Prod.snd).length = q.items.length + 1 := by rw [List.length_map]; exact hl
  refine ⟨h.mn, by have := h.le; omega, ?_, ?_, by rw [hx]; exact ho.up o h1 h2⟩
  · rw [hx, ins_mid o h1 h2, hi, List.map_set, weave_set hl2 hf.le, ← hA, ← hB]
  · rcases h.sh with ⟨h9, _⟩ | ⟨_, _, h9⟩
    · exact absurd h9 hd
    · exact .inr ⟨hd, by rw [List.length_set]; exact hl, h9⟩
/-- put: into kid number i, which is parted. -/
theorem put_part (o : Sto lt) {q : NodeW α} (h : okN mn d q xs) (hs : Srt key lt xs) {x m : α} {i kb br : Nat} {ys ls rs : List α} {old : β} {had : Bool} (hk : q.kids[i]? = some (kb, ys)) (hf : Found key lt (key x) q.items i) (hn : ¬ ∃ y, q.items[i]? = some y ∧ key y = key x) (hi : ins key lt x ys = ls ++ m :: rs) (ho : Old key val zero x ys old had) :
    PutMid key lt val zero d mn x xs (q.items.take i ++ m :: q.items.drop i) (q.kids.take i ++ (kb, ls) :: (br, rs) :: q.kids.drop (i + 1)) old had := by
  obtain ⟨A, B, hx, hA, hB, h1, h2, hl, hd, _⟩ := kid_parts o h hs hk hf hn
  have hl2 : (q.kids.map Prod.snd).length = q.items.length + 1 := by rw [List.length_map]; exact hl
  have hle := hf.le
  have hlen : (q.items.take i ++ m :: q.items.drop i).length = q.items.length + 1 := by
    rw [List.length_append, List.length_take, List.length_cons, List.length_drop]; omega
  refine ⟨by rw [hlen]; have := h.mn; omega, by rw [hlen]; have := h.le; omega, ?_, ?_, by rw [hx]; exact ho.up o h1 h2⟩
  · rw [hx, ins_mid o h1 h2, hi, List.map_append, List.map_cons, List.map_cons, List.map_take, List.map_drop, weave_two hl2 hle, ← hA, ← hB]
  · exact .inr ⟨hd, by rw [hlen, List.length_append, List.length_take, List.length_cons, List.length_cons, List.length_drop]; omega, by rw [hlen]; omega⟩
/-- put: the node has room. -/
theorem PutMid.fits {x : α} {items : List α} {kids : List (Nat × List α)} {old : β} {had : Bool} (h : PutMid key lt val zero d mn x xs items kids old had) (h5 : items.length ≤ 5) (a : Option Addr) (c : Nat) (ak : Option Addr) (ck : Nat) : okN mn d ⟨a, c, ak, ck, items, kids⟩ (ins key lt x xs) := ⟨h.mn, h5, h.is, h.sh⟩
/-- put: the node is parted. -/
theorem PutMid.parts {x m : α} {items : List α} {kids : List (Nat × List α)} {old : β} {had : Bool} (h : PutMid key lt val zero d mn x xs items kids old had) (h5 : ¬ items.length ≤ 5) (hm : items[2]? = some m) :
    (∀ a c ak ck, okN 2 d ⟨a, c, ak, ck, items.take 2, kids.take 3⟩ (weave ((kids.take 3).map Prod.snd) (items.take 2))) ∧ (∀ a c ak ck, okN 2 d ⟨a, c, ak, ck, items.drop 3, kids.drop 3⟩ (weave ((kids.drop 3).map Prod.snd) (items.drop 3))) ∧
      ins key lt x xs = weave ((kids.take 3).map Prod.snd) (items.take 2) ++ m :: weave ((kids.drop 3).map Prod.snd) (items.drop 3) := by
  have h6 := h.le
  refine ⟨fun a c ak ck => ⟨?_, ?_, rfl, ?_⟩, fun a c ak ck => ⟨?_, ?_, rfl, ?_⟩, ?_⟩
  · show 2 ≤ (items.take 2).length; rw [List.length_take]; omega
  · show (items.take 2).length ≤ 5; rw [List.length_take]; omega
  · rcases h.sh with ⟨h1, h2⟩ | ⟨h1, h2, h3⟩
    · exact .inl ⟨h1, by show kids.take 3 = []; rw [h2]; rfl⟩
    · exact .inr ⟨h1, by show (kids.take 3).length = (items.take 2).length + 1; rw [List.length_take, List.length_take]; omega, by show 1 ≤ (items.take 2).length; rw [List.length_take]; omega⟩
  · show 2 ≤ (items.drop 3).length; rw [List.length_drop]; omega
  · show (items.drop 3).length ≤ 5; rw [List.length_drop]; omega
  · rcases h.sh with ⟨h1, h2⟩ | ⟨h1, h2, h3⟩
    · exact .inl ⟨h1, by show kids.drop 3 = []; rw [h2]; rfl⟩
    · exact .inr ⟨h1, by show (kids.drop 3).length = (items.drop 3).length + 1; rw [List.length_drop, List.length_drop]; omega, by show 1 ≤ (items.drop 3).length; rw [List.length_drop]; omega⟩
  · rw [h.is, List.map_take, List.map_drop]
    exact weave_part h.sh.or hm
theorem kids_fst {ks : List (Nat × List α)} {i kb br : Nat} {ys ls rs : List α} (hk : ks[i]? = some (kb, ys)) : (ks.map Prod.fst).take (i + 1) ++ br :: (ks.map Prod.fst).drop (i + 1) = (ks.take i ++ (kb, ls) :: (br, rs) :: ks.drop (i + 1)).map Prod.fst := by
  have h : (ks.map Prod.fst)[i]? = some kb := by rw [List.getElem?_map, hk]; rfl
  obtain ⟨hi, hx⟩ := List.getElem?_eq_some_iff.1 h
  rw [List.take_succ_eq_append_getElem hi, hx, List.map_append, List.map_cons, List.map_cons, List.map_take, List.map_drop]
  simp
theorem kids_fst_set {ks : List (Nat × List α)} {i kb : Nat} {ys ls : List α} (hk : ks[i]? = some (kb, ys)) : ks.map Prod.fst = (ks.set i (kb, ls)).map Prod.fst := by
  obtain ⟨hi, hx⟩ := List.getElem?_eq_some_iff.1 hk
  rw [List.map_set]
  refine (List.ext_getElem? fun j => ?_)
  rw [List.getElem?_set]
  split
  · rename_i h; subst h; rw [if_pos (by rw [List.length_map]; exact hi), List.getElem?_map, hk]; rfl
  · rfl
/-- put: a leaf is parted. -/
theorem put_end0 {items : List α} {kids : List (Nat × List α)} {a ak a2 : Option Addr} {c ck c2 bm br : Nat} {m : α} {ls rs : List α} (okI : EncOk P eI) (h6 : 6 ≤ items.length) (hk : kids = [])
    (hL : okN 2 d ⟨a, 2, ak, ck, items.take 2, kids.take 3⟩ ls) (hR : okN 2 d ⟨a2, c2, none, 0, items.drop 3, kids.drop 3⟩ rs)
    (S : Sat W w (blk b (.cells #[.slice a 2 2, .slice ak (kids.map Prod.fst).length ck] TN (0, 0)) :: row eI.T eI.sz a items.length c (flat eI items) :: row eK.T eK.sz ak (kids.map Prod.fst).length ck (flat eK (kids.map Prod.fst)) :: kidsR eI eK TN d kids :: blk bm (.cells (eI.cells m).toArray eI.T (0, 0)) :: blk br (.cells #[.slice a2 (items.drop 3).length c2, .slice none 0 0] TN (0, 0)) :: row eI.T eI.sz a2 (items.drop 3).length c2 (flat eI (items.drop 3)) :: L)) :
    Sat W w (nodeR eI eK TN d 2 b ls :: midR eI eK TN d (some (bm, m, br, rs)) :: L) := by
  subst hk
  have hp : ∀ (A B C D E F G : Res) (L : List Res), (A :: B :: C :: D :: E :: F :: G :: L).Perm (B :: A :: C :: D :: E :: F :: G :: L) := fun A B C D E F G L => List.Perm.swap _ _ _
  have S1 := S.perm (List.Perm.swap _ _ _)
  have hcap := row_capL S1
  have S2 := S1.row_cut (n' := 2) (c' := 2) (by omega) (by omega) (by omega) (by omega)
  rw [← flat_take okI] at S2
  have hlt : (items.take 2).length = 2 := by rw [List.length_take]; omega
  have S3 : Sat W w (blk b (.cells #[.slice a (items.take 2).length 2, .slice ak 0 ck] TN (0, 0)) :: row eI.T eI.sz a (items.take 2).length 2 (flat eI (items.take 2)) :: row eK.T eK.sz ak 0 ck [] :: kidsR eI eK TN d [] :: blk bm (.cells (eI.cells m).toArray eI.T (0, 0)) :: blk br (.cells #[.slice a2 (items.drop 3).length c2, .slice none 0 0] TN (0, 0)) :: row eI.T eI.sz a2 (items.drop 3).length c2 (flat eI (items.drop 3)) :: L) := by
    rw [hlt]; exact S2.perm (List.Perm.swap _ _ _)
  have S4 := nodeMk (eI := eI) (eK := eK) (TN := TN) _ hL S3
  -- the right one
  have S5 := (S4.perm (List.perm_middle.symm : (nodeR eI eK TN d 2 b ls :: ([blk bm (.cells (eI.cells m).toArray eI.T (0, 0)), blk br (.cells #[.slice a2 (items.drop 3).length c2, .slice none 0 0] TN (0, 0)), row eI.T eI.sz a2 (items.drop 3).length c2 (flat eI (items.drop 3))] ++ L)).Perm _))
  have S6 : Sat W w (row eK.T eK.sz none 0 0 [] :: kidsR eI eK TN d [] :: blk bm (.cells (eI.cells m).toArray eI.T (0, 0)) :: blk br (.cells #[.slice a2 (items.drop 3).length c2, .slice none 0 0] TN (0, 0)) :: row eI.T eI.sz a2 (items.drop 3).length c2 (flat eI (items.drop 3)) :: nodeR eI eK TN d 2 b ls :: L) := Sat.own_nil (Sat.stars_nil S5)
  have S7 : Sat W w (blk br (.cells #[.slice a2 (items.drop 3).length c2, .slice none 0 0] TN (0, 0)) :: row eI.T eI.sz a2 (items.drop 3).length c2 (flat eI (items.drop 3)) :: row eK.T eK.sz none 0 0 [] :: kidsR eI eK TN d [] :: blk bm (.cells (eI.cells m).toArray eI.T (0, 0)) :: nodeR eI eK TN d 2 b ls :: L) :=
    ((((S6.perm p3).perm p4).perm (List.Perm.swap _ _ _)).perm (List.Perm.refl _))
  have S8 := nodeMk (eI := eI) (eK := eK) (TN := TN) _ hR S7
  exact ((Sat.unflat (Ls := [_, _]) (S8.perm (List.Perm.swap _ _ _))).perm (List.Perm.swap _ _ _))
/-- put: an inner node is parted. -/
theorem put_end {items : List α} {kids : List (Nat × List α)} {a ak a2 ak2 : Option Addr} {c ck c2 ck2 bm br : Nat} {m : α} {ls rs : List α} (okI : EncOk P eI) (okK : EncOk P eK) (h6 : 6 ≤ items.length) (hk : 6 ≤ kids.length)
    (hL : okN 2 d ⟨a, 2, ak, 3, items.take 2, kids.take 3⟩ ls) (hR : okN 2 d ⟨a2, c2, ak2, ck2, items.drop 3, kids.drop 3⟩ rs)
    (S : Sat W w (blk b (.cells #[.slice a 2 2, .slice ak 3 3] TN (0, 0)) :: row eI.T eI.sz a items.length c (flat eI items) :: row eK.T eK.sz ak (kids.map Prod.fst).length ck (flat eK (kids.map Prod.fst)) :: kidsR eI eK TN d kids :: blk bm (.cells (eI.cells m).toArray eI.T (0, 0)) :: blk br (.cells #[.slice a2 (items.drop 3).length c2, .slice ak2 ((kids.map Prod.fst).drop 3).length ck2] TN (0, 0)) :: row eI.T eI.sz a2 (items.drop 3).length c2 (flat eI (items.drop 3)) :: row eK.T eK.sz ak2 ((kids.map Prod.fst).drop 3).length ck2 (flat eK ((kids.map Prod.fst).drop 3)) :: L)) :
    Sat W w (nodeR eI eK TN d 2 b ls :: midR eI eK TN d (some (bm, m, br, rs)) :: L) := by
  have S1 := S.perm (List.Perm.swap _ _ _)
  have hcap := row_capL S1
  have S2 := S1.row_cut (n' := 2) (c' := 2) (by omega) (by omega) (by omega) (by omega)
  rw [← flat_take okI] at S2
  have S2' := S2.perm p2
  have hcap2 := row_capL S2'
  have hkl : (kids.map Prod.fst).length = kids.length := List.length_map _
  have S3 := S2'.row_cut (n' := 3) (c' := 3) (by omega) (by omega) (by omega) (by omega)
  rw [← flat_take okK] at S3
  have hlt : (items.take 2).length = 2 := by rw [List.length_take]; omega
  have hlk : ((kids.take 3).map Prod.fst).length = 3 := by rw [List.length_map, List.length_take]; omega
  have S4 := (S3.perm p3).kids_part 3
  -- kidsL, kidsR, rowK, rowI, box, ..
  have S5 : Sat W w (blk b (.cells #[.slice a (items.take 2).length 2, .slice ak ((kids.take 3).map Prod.fst).length 3] TN (0, 0)) :: row eI.T eI.sz a (items.take 2).length 2 (flat eI (items.take 2)) :: row eK.T eK.sz ak ((kids.take 3).map Prod.fst).length 3 (flat eK ((kids.take 3).map Prod.fst)) :: kidsR eI eK TN d (kids.take 3) :: kidsR eI eK TN d (kids.drop 3) :: blk bm (.cells (eI.cells m).toArray eI.T (0, 0)) :: blk br (.cells #[.slice a2 (items.drop 3).length c2, .slice ak2 ((kids.map Prod.fst).drop 3).length ck2] TN (0, 0)) :: row eI.T eI.sz a2 (items.drop 3).length c2 (flat eI (items.drop 3)) :: row eK.T eK.sz ak2 ((kids.map Prod.fst).drop 3).length ck2 (flat eK ((kids.map Prod.fst).drop 3)) :: L) := by
    rw [hlt, hlk, List.map_take]
    have h9 := S4.perm p2
    have h10 := h9.perm p3
    have h11 := h10.perm p4
    exact h11
  have S6 := nodeMk (eI := eI) (eK := eK) (TN := TN) _ hL S5
  have hmd : (kids.map Prod.fst).drop 3 = (kids.drop 3).map Prod.fst := (List.map_drop ..).symm
  rw [hmd] at S6
  have S7 : Sat W w (blk br (.cells #[.slice a2 (items.drop 3).length c2, .slice ak2 ((kids.drop 3).map Prod.fst).length ck2] TN (0, 0)) :: row eI.T eI.sz a2 (items.drop 3).length c2 (flat eI (items.drop 3)) :: row eK.T eK.sz ak2 ((kids.drop 3).map Prod.fst).length ck2 (flat eK ((kids.drop 3).map Prod.fst)) :: kidsR eI eK TN d (kids.drop 3) :: nodeR eI eK TN d 2 b ls :: blk bm (.cells (eI.cells m).toArray eI.T (0, 0)) :: L) :=
    (((S6.perm p1).perm p5).perm p5).perm p5 |>.perm (List.Perm.refl _)
  have S8 := nodeMk (eI := eI) (eK := eK) (TN := TN) _ hR S7
  have S9 := S8.perm p2
  exact (Sat.unflat (Ls := [_, _]) S9).perm (List.Perm.swap _ _ _)
end
end Go.Proofs.Ytlblipkcbmcfkaa
