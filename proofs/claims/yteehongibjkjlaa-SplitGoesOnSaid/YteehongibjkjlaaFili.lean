/- Filters of a region's log: the plain law. -/
import Derived.Test.YteehongibjkjlaaFilp
set_option linter.unusedVariables false
set_option linter.unusedSimpArgs false
namespace Go.Proofs.Yteehongibjkjlaa
open Go.RowKit Classical
noncomputable def FS.item (s : FS) (x : Item) : Bool × FS :=
  if ¬ s.region ∈ homes x.ord then (false, s)
  else if x.f_Kind = 1 ∧ single x.ord then s.first x.ord.tag
  else if x.f_Kind = 2 ∧ ¬ single x.ord ∧ s.last < x.f_Index then (true, { s with last := x.f_Index })
  else (false, s)
def RunOk (g : Int) (x : Item) : Prop := x.f_Kind = 1 ∧ g ∈ homes x.ord ∧ single x.ord
def PieceOk (g : Int) (x : Item) : Prop := x.f_Kind = 2 ∧ g ∈ homes x.ord ∧ ¬ single x.ord
noncomputable def lastOn (g l : Int) (x : Item) : Int := if PieceOk g x ∧ l < x.f_Index then x.f_Index else l
noncomputable def lastOf (g : Int) (log : List Item) : Int := log.foldl (lastOn g) (-1)
noncomputable def runs (g : Int) (pre : List Item) (t : Tag) : Nat := (pre.filter fun x => decide (RunOk g x ∧ x.ord.tag = t)).length
def Cnts (g : Int) (log : List Item) (i : Nat) : Prop := ∃ x, log[i]? = some x ∧ ((RunOk g x ∧ ∀ j y, j < i → log[j]? = some y → RunOk g y → y.ord.tag ≠ x.ord.tag) ∨ (PieceOk g x ∧ lastOf g (log.take i) < x.f_Index))
theorem lastOf_snoc (g : Int) (pre : List Item) (x : Item) : lastOf g (pre ++ [x]) = lastOn g (lastOf g pre) x := by simp [lastOf, List.foldl_append]
theorem runs_le (g : Int) (pre : List Item) (t : Tag) : runs g pre t ≤ pre.length := List.length_filter_le _ _
theorem runs_snoc (g : Int) (pre : List Item) (x : Item) (t : Tag) : runs g (pre ++ [x]) t = if RunOk g x ∧ x.ord.tag = t then runs g pre t + 1 else runs g pre t := by
  unfold runs
  rw [List.filter_append, List.length_append]
  by_cases h : RunOk g x ∧ x.ord.tag = t
  · rw [if_pos h]; simp [h]
  · rw [if_neg h]; simp [h]
theorem runs_0 {g : Int} {pre : List Item} {t : Tag} : runs g pre t = 0 ↔ ∀ (j : Nat) (y : Item), pre[j]? = some y → RunOk g y → y.ord.tag ≠ t := by
  unfold runs
  rw [List.length_eq_zero_iff, List.filter_eq_nil_iff]
  constructor
  · intro h j y hy hr ht
    have := h y (List.mem_of_getElem? hy)
    simp [hr, ht] at this
  · intro h y hy
    obtain ⟨j, hj, rfl⟩ := List.mem_iff_getElem.1 hy
    simp only [decide_eq_true_eq]
    rintro ⟨h1, h2⟩
    exact h j _ (List.getElem?_eq_getElem hj) h1 h2
theorem tk_get {α : Type} {log : List α} {i j : Nat} {y : α} : (log.take i)[j]? = some y ↔ j < i ∧ log[j]? = some y := by
  rw [List.getElem?_take]; split <;> simp_all <;> omega
theorem cnts_iff {g : Int} {log : List Item} {i : Nat} {x : Item} (hx : log[i]? = some x) : Cnts g log i ↔ (RunOk g x ∧ runs g (log.take i) x.ord.tag = 0) ∨ (PieceOk g x ∧ lastOf g (log.take i) < x.f_Index) := by
  rw [runs_0]
  constructor
  · rintro ⟨o', ho, h⟩
    rw [hx] at ho; cases ho
    rcases h with ⟨h1, h2⟩ | h
    · exact .inl ⟨h1, fun j y hy => h2 j y (tk_get.1 hy).1 (tk_get.1 hy).2⟩
    · exact .inr h
  · rintro (⟨h1, h2⟩ | h)
    · exact ⟨x, hx, .inl ⟨h1, fun j y hj hy => h2 j y (tk_get.2 ⟨hj, hy⟩)⟩⟩
    · exact ⟨x, hx, .inr h⟩
theorem item_vw {s : FS} {g l : Int} {n : Tag → Nat} (h : Vw s g l n) (x : Item) (hb : ∀ t, n t ≤ 1000000) :
    (s.item x).1 = decide ((RunOk g x ∧ n x.ord.tag = 0) ∨ (PieceOk g x ∧ l < x.f_Index)) ∧ Vw (s.item x).2 g (lastOn g l x) (fun t => if RunOk g x ∧ x.ord.tag = t then n t + 1 else n t) := by
  unfold FS.item RunOk PieceOk lastOn PieceOk
  rw [h.region, h.last]
  by_cases h1 : g ∈ homes x.ord
  · rw [if_neg (fun h9 => h9 h1)]
    by_cases h2 : x.f_Kind = 1 ∧ single x.ord
    · rw [if_pos h2]
      obtain ⟨e1, e2⟩ := h.first x.ord.tag (hb _)
      have hk : ¬ x.f_Kind = 2 := by omega
      refine ⟨by rw [e1, decide_eq_decide]; simp [h1, h2, hk], ?_⟩
      refine ⟨e2.region, e2.last.trans (if_neg (fun h9 => hk h9.1.1)).symm, fun t => ?_⟩
      rw [e2.cnt]
      by_cases e : x.ord.tag = t
      · rw [if_pos e, if_pos ⟨⟨h2.1, h1, h2.2⟩, e⟩]
      · rw [if_neg e, if_neg (fun h9 => e h9.2)]
    · rw [if_neg h2]
      have hr : ¬ (x.f_Kind = 1 ∧ g ∈ homes x.ord ∧ single x.ord) := fun h9 => h2 ⟨h9.1, h9.2.2⟩
      by_cases h3 : x.f_Kind = 2 ∧ ¬ single x.ord ∧ l < x.f_Index
      · rw [if_pos h3]
        refine ⟨by simp [h1, h3], ?_⟩
        rw [if_pos ⟨⟨h3.1, h1, h3.2.1⟩, h3.2.2⟩]
        exact ⟨rfl, rfl, fun t => by rw [if_neg (fun h9 => hr h9.1)]; exact h.cnt t⟩
      · rw [if_neg h3]
        have hp : ¬ ((x.f_Kind = 2 ∧ g ∈ homes x.ord ∧ ¬ single x.ord) ∧ l < x.f_Index) := fun h9 => h3 ⟨h9.1.1, h9.1.2.2, h9.2⟩
        refine ⟨by symm; rw [decide_eq_false_iff_not]; rintro (h9 | h9); exact hr h9.1; exact hp h9, ?_⟩
        rw [if_neg hp]
        exact ⟨h.region, h.last, fun t => by rw [if_neg (fun h9 => hr h9.1)]; exact h.cnt t⟩
  · rw [if_pos h1]
    refine ⟨by symm; rw [decide_eq_false_iff_not]; rintro (h9 | h9); exact h1 h9.1.2.1; exact h1 h9.1.2.1, ?_⟩
    rw [if_neg (fun h9 => h1 h9.1.2.1)]
    exact ⟨h.region, h.last, fun t => by rw [if_neg (fun h9 => h1 h9.1.2.1)]; exact h.cnt t⟩
theorem vw_on {s : FS} {g : Int} {log : List Item} {i : Nat} {x : Item} (hl : log.length ≤ 40) (h : Vw s g (lastOf g (log.take i)) (runs g (log.take i))) (hx : log[((i : Int)).toNat]? = some x) : (s.item x).1 = decide (Cnts g log i) ∧ Vw (s.item x).2 g (lastOf g (log.take (i + 1))) (runs g (log.take (i + 1))) := by
  have hx' : log[i]? = some x := hx
  obtain ⟨h1, h2⟩ := item_vw h x (fun t => by have := runs_le g (log.take i) t; rw [List.length_take] at this; omega)
  refine ⟨by rw [h1, decide_eq_decide, cnts_iff hx'], ?_⟩
  have ht : log.take (i + 1) = log.take i ++ [x] := by rw [List.take_add_one, hx']; rfl
  rw [ht, lastOf_snoc]
  refine ⟨h2.region, h2.last, fun t => ?_⟩
  rw [h2.cnt, runs_snoc]
def HadP (g : Int) (log : List Item) (t : Tag) (k : Nat) : Prop := ∃ y, log[k]? = some y ∧ y.f_Kind = 1 ∧ y.ord.tag = t ∧ Cnts g log k
theorem hadP {g : Int} {log : List Item} {t : Tag} {k : Nat} {y : Item} (hx : log[((k : Int)).toNat]? = some y) : HadP g log t k ↔ y.f_Kind = 1 ∧ y.ord.tag = t ∧ Cnts g log k := by
  have hx' : log[k]? = some y := hx
  constructor
  · rintro ⟨z, hz, h⟩; rw [hx'] at hz; cases hz; exact h
  · intro h; exact ⟨y, hx', h⟩
theorem had_on {P : Nat → Prop} {j : Nat} {hd hd' : Bool} (h : hd = true ↔ ∃ k, k < j ∧ P k) (h' : hd' = true ↔ (hd = true ∨ P j)) : hd' = true ↔ ∃ k, k < j + 1 ∧ P k := by
  rw [h', h]
  constructor
  · rintro (⟨k, hk, hp⟩ | hp)
    · exact ⟨k, by omega, hp⟩
    · exact ⟨j, by omega, hp⟩
  · rintro ⟨k, hk, hp⟩
    by_cases e : k = j
    · subst e; exact .inr hp
    · exact .inl ⟨k, by omega, hp⟩
/-- Whoever runs first counts. -/
theorem first_run {g : Int} {log : List Item} {t : Tag} : ∀ (n : Nat) {k : Nat} {y : Item}, k ≤ n → log[k]? = some y → RunOk g y → y.ord.tag = t → ∃ j z, j ≤ k ∧ log[j]? = some z ∧ RunOk g z ∧ z.ord.tag = t ∧ Cnts g log j := by
  intro n
  induction n with
  | zero =>
    intro k y hk hy hr ht
    obtain rfl : k = 0 := by omega
    exact ⟨0, y, Nat.le_refl _, hy, hr, ht, y, hy, .inl ⟨hr, fun j _ hj => absurd hj (by omega)⟩⟩
  | succ n ih =>
    intro k y hk hy hr ht
    by_cases h : ∃ j z, j < k ∧ log[j]? = some z ∧ RunOk g z ∧ z.ord.tag = t
    · obtain ⟨j, z, hj, hz, hrz, htz⟩ := h
      obtain ⟨i, u, hi, h1⟩ := ih (show j ≤ n by omega) hz hrz htz
      exact ⟨i, u, by omega, h1⟩
    · exact ⟨k, y, Nat.le_refl _, hy, hr, ht, y, hy, .inl ⟨hr, fun j z hj hz hrz e => h ⟨j, z, hj, hz, hrz, by rw [e]; exact ht⟩⟩⟩
theorem cnts_run {g : Int} {log : List Item} {k : Nat} {y : Item} (hy : log[k]? = some y) (h : Cnts g log k) (hk : y.f_Kind = 1) : RunOk g y := by
  rcases (cnts_iff hy).1 h with h1 | h1
  · exact h1.1
  · have := h1.1.1; omega
theorem had_iff {g : Int} {log : List Item} {t : Tag} {i : Nat} : (∃ k, k < i ∧ HadP g log t k) ↔ runs g (log.take i) t ≠ 0 := by
  rw [Ne, runs_0]
  constructor
  · rintro ⟨k, hk, y, hy, h1, h2, h3⟩ hn
    exact hn k y (tk_get.2 ⟨hk, hy⟩) (cnts_run hy h3 h1) h2
  · intro h
    refine Classical.byContradiction fun hn => h fun j y hy hr ht => hn ?_
    obtain ⟨h1, h2⟩ := tk_get.1 hy
    obtain ⟨k, z, hk, hz, hrz, htz, hc⟩ := first_run j (Nat.le_refl _) h2 hr ht
    exact ⟨k, by omega, z, hz, hrz.1, htz, hc⟩
/-- What the document's Counts finds. -/
theorem cnts_no {g : Int} {log : List Item} {i : Nat} {x : Item} (hx : log[((i : Int)).toNat]? = some x) (h : ¬ g ∈ homes x.ord) : ¬ Cnts g log i := fun hc => by
  have hx' : log[i]? = some x := hx
  rcases (cnts_iff hx').1 hc with h1 | h1
  · exact h h1.1.2.1
  · exact h h1.1.2.1
theorem cnts_notrun {g : Int} {log : List Item} {i : Nat} {x : Item} (hx : log[((i : Int)).toNat]? = some x) (hk : x.f_Kind = 1) (h : ¬ single x.ord) : ¬ Cnts g log i := fun hc => by
  have hx' : log[i]? = some x := hx
  exact h (cnts_run hx' hc hk).2.2
theorem cnts_again {g : Int} {log : List Item} {i j : Nat} {x y : Item} (hx : log[((i : Int)).toNat]? = some x) (hk : x.f_Kind = 1) (hj : j < i) (hy : log[((j : Int)).toNat]? = some y) (hyk : y.f_Kind = 1) (ht : y.ord.tag = x.ord.tag) (hc : Cnts g log j) : ¬ Cnts g log i := fun h => by
  have hx' : log[i]? = some x := hx
  have hy' : log[j]? = some y := hy
  rcases (cnts_iff hx').1 h with h1 | h1
  · have := runs_0.1 h1.2 j y (tk_get.2 ⟨hj, hy'⟩) (cnts_run hy' hc hyk)
    exact this ht
  · have := h1.1.1; omega
theorem cnts_first {g : Int} {log : List Item} {i : Nat} {x : Item} (hx : log[((i : Int)).toNat]? = some x) (hr : RunOk g x) (h : ∀ k, k < i → ¬ HadP g log x.ord.tag k) : Cnts g log i := by
  have hx' : log[i]? = some x := hx
  rw [cnts_iff hx']
  refine .inl ⟨hr, Classical.byContradiction fun h1 => ?_⟩
  obtain ⟨k, hk, hp⟩ := had_iff.2 h1
  exact h k hk hp
theorem cnts_piece {g : Int} {log : List Item} {i : Nat} {x : Item} (hx : log[((i : Int)).toNat]? = some x) (hk : ¬ x.f_Kind = 1) : Cnts g log i ↔ PieceOk g x ∧ lastOf g (log.take i) < x.f_Index := by
  have hx' : log[i]? = some x := hx
  rw [cnts_iff hx']
  constructor
  · rintro (h | h)
    · exact absurd h.1.1 hk
    · exact h
  · exact .inr
theorem lastOf_on {g : Int} {log : List Item} {i : Nat} {x : Item} {l : Int} (h : l = lastOf g (log.take i)) (hx : log[((i : Int)).toNat]? = some x) : lastOf g (log.take (i + 1)) = lastOn g l x := by
  have hx' : log[i]? = some x := hx
  rw [List.take_add_one, hx', h, ← lastOf_snoc]; rfl
end Go.Proofs.Yteehongibjkjlaa
