/- Filters: what is kept of a log, which entries count: the plain law. -/
import Derived.Test.YteehongibjkjlaaOrdp
set_option linter.unusedVariables false
set_option linter.unusedSimpArgs false
namespace Go.Proofs.Yteehongibjkjlaa
open Go.RowKit Classical
structure FS where
  region : Int
  last : Int
  seen : List (Tag × Int)
def cnt (D : List (Tag × Int)) (t : Tag) : Int := (mget D t).getD 0
noncomputable def FS.first (s : FS) (t : Tag) : Bool × FS := (decide (IntKind.i64.wrap (cnt s.seen t + 1) = 1), { s with seen := mset s.seen t (IntKind.i64.wrap (cnt s.seen t + 1)) })
theorem first_1 (s : FS) (t : Tag) : (s.first t).1 = decide (IntKind.i64.wrap (cnt s.seen t + 1) = 1) := rfl
theorem first_2 (s : FS) (t : Tag) : (s.first t).2 = { s with seen := mset s.seen t (IntKind.i64.wrap (cnt s.seen t + 1)) } := rfl
/-- What is seen of a filter. -/
structure Vw (s : FS) (g l : Int) (n : Tag → Nat) : Prop where
  region : s.region = g
  last : s.last = l
  cnt : ∀ t, cnt s.seen t = (n t : Int)
theorem Vw.new (g : Int) : Vw ⟨g, -1, []⟩ g (-1) (fun _ => 0) := ⟨rfl, rfl, fun t => rfl⟩
theorem cnt_set {D : List (Tag × Int)} {t u : Tag} {b : Int} : cnt (mset D t b) u = if t = u then b else cnt D u := by
  unfold cnt; rw [mget_set]; split <;> rfl
theorem Vw.first {s : FS} {g l : Int} {n : Tag → Nat} (h : Vw s g l n) (t : Tag) (hb : n t ≤ 1000000) : (s.first t).1 = decide (n t = 0) ∧ Vw (s.first t).2 g l (fun u => if t = u then n u + 1 else n u) := by
  have hw : IntKind.i64.wrap (Go.Proofs.Yteehongibjkjlaa.cnt s.seen t + 1) = (n t : Int) + 1 := by rw [h.cnt]; exact wrap_i64 (by omega) (by omega)
  refine ⟨?_, ?_⟩
  · rw [first_1, hw, decide_eq_decide]; omega
  · rw [first_2, hw]
    refine ⟨h.region, h.last, fun u => ?_⟩
    show Go.Proofs.Yteehongibjkjlaa.cnt (mset s.seen t _) u = _
    rw [cnt_set]
    by_cases e : t = u
    · subst e; rw [if_pos rfl, if_pos rfl]; omega
    · rw [if_neg e, if_neg e, h.cnt]
/-! ### The global log -/
noncomputable def oruns (pre : List Order) (t : Tag) : Nat := (pre.filter fun o => decide (¬ single o ∧ o.tag = t)).length
def FirstG (log : List Order) (i : Nat) : Prop := ∃ o, log[i]? = some o ∧ ¬ single o ∧ ∀ j y, j < i → log[j]? = some y → y.tag = o.tag → single y
theorem oruns_le (pre : List Order) (t : Tag) : oruns pre t ≤ pre.length := List.length_filter_le _ _
theorem oruns_snoc (pre : List Order) (o : Order) (t : Tag) : oruns (pre ++ [o]) t = if ¬ single o ∧ o.tag = t then oruns pre t + 1 else oruns pre t := by
  unfold oruns
  rw [List.filter_append, List.length_append]
  by_cases h : ¬ single o ∧ o.tag = t
  · rw [if_pos h]; simp [h]
  · rw [if_neg h]; simp [h]
theorem oruns_0 {pre : List Order} {t : Tag} : oruns pre t = 0 ↔ ∀ (j : Nat) (y : Order), pre[j]? = some y → y.tag = t → single y := by
  unfold oruns
  rw [List.length_eq_zero_iff, List.filter_eq_nil_iff]
  constructor
  · intro h j y hy ht
    have := h y (List.mem_of_getElem? hy)
    exact Classical.byContradiction fun h1 => by simp [h1, ht] at this
  · intro h y hy
    obtain ⟨j, hj, rfl⟩ := List.mem_iff_getElem.1 hy
    simp only [decide_eq_true_eq]
    rintro ⟨h1, h2⟩
    exact h1 (h j _ (List.getElem?_eq_getElem hj) h2)
theorem firstG_iff {log : List Order} {i : Nat} {o : Order} (hx : log[i]? = some o) : FirstG log i ↔ ¬ single o ∧ oruns (log.take i) o.tag = 0 := by
  have ht : ∀ j y, (log.take i)[j]? = some y ↔ j < i ∧ log[j]? = some y := fun j y => by
    rw [List.getElem?_take]; split <;> simp_all <;> omega
  rw [oruns_0]
  constructor
  · rintro ⟨o', ho, h1, h2⟩
    rw [hx] at ho; cases ho
    exact ⟨h1, fun j y hy => h2 j y ((ht j y).1 hy).1 ((ht j y).1 hy).2⟩
  · rintro ⟨h1, h2⟩
    exact ⟨o, hx, h1, fun j y hj hy => h2 j y ((ht j y).2 ⟨hj, hy⟩)⟩
end Go.Proofs.Yteehongibjkjlaa
