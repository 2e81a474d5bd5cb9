/- Marks of one region: the plain law. -/
import Derived.Test.YteehongibjkjlaaCopyp
set_option linter.unusedVariables false
set_option linter.unusedSimpArgs false
namespace Go.Proofs.Yteehongibjkjlaa
open Go.RowKit Classical
noncomputable def partOf (h : Int) (ms : List Mark) : List Mark := ms.filter fun m => decide (m.f_Home = h)
theorem part_le (h : Int) (ms : List Mark) : (partOf h ms).length ≤ ms.length := List.length_filter_le _ _
theorem part_in {h : Int} {ms ps : List Mark} {i : Nat} {m : Mark} (hp : ps = partOf h (ms.take i)) (hx : ms[((i : Int)).toNat]? = some m) (he : m.f_Home = h) : ps ++ [m] = partOf h (ms.take (i + 1)) := by
  have hx' : ms[i]? = some m := hx
  rw [hp, List.take_add_one, hx']
  unfold partOf
  rw [List.filter_append]; simp [he]
theorem part_out {h : Int} {ms ps : List Mark} {i : Nat} {m : Mark} (hp : ps = partOf h (ms.take i)) (hx : ms[((i : Int)).toNat]? = some m) (he : ¬ m.f_Home = h) : ps = partOf h (ms.take (i + 1)) := by
  have hx' : ms[i]? = some m := hx
  rw [hp, List.take_add_one, hx']
  unfold partOf
  rw [List.filter_append]; simp [he]
noncomputable def cntTo (ms : List Mark) : Nat → Nat
  | 0 => 0
  | h + 1 => cntTo ms h + (partOf (h : Int) ms).length
theorem cntTo_cons (m : Mark) (ms : List Mark) (n : Nat) : cntTo (m :: ms) n = cntTo ms n + if 0 ≤ m.f_Home ∧ m.f_Home < (n : Int) then 1 else 0 := by
  induction n with
  | zero =>
    simp only [cntTo]
    rw [if_neg (by omega)]
  | succ n ih =>
    have hp : (partOf (n : Int) (m :: ms)).length = (partOf (n : Int) ms).length + if m.f_Home = (n : Int) then 1 else 0 := by
      unfold partOf
      rw [List.filter_cons]
      by_cases he : m.f_Home = (n : Int)
      · rw [if_pos he, if_pos (decide_eq_true he), List.length_cons]
      · rw [if_neg he, if_neg (by rw [decide_eq_true_eq]; exact he)]; rfl
    simp only [cntTo]
    rw [ih, hp]
    by_cases he : m.f_Home = (n : Int)
    · rw [if_neg (c := 0 ≤ m.f_Home ∧ m.f_Home < (n : Int)) (by omega), if_pos he, if_pos (by omega)]; omega
    · rw [if_neg he]
      by_cases h2 : 0 ≤ m.f_Home ∧ m.f_Home < (n : Int)
      · rw [if_pos h2, if_pos (by omega)]; omega
      · rw [if_neg h2, if_neg (by omega)]; omega
theorem cnt_all : ∀ {ms : List Mark}, (∀ m ∈ ms, 0 ≤ m.f_Home ∧ m.f_Home < 3) → cntTo ms 3 = ms.length
  | [], _ => by simp [cntTo, partOf]
  | m :: ms, h => by
    have h1 := h m (by simp)
    rw [cntTo_cons, cnt_all (ms := ms) fun x hx => h x (by simp [hx]), if_pos (by omega)]
    simp
theorem cntTo_le (ms : List Mark) (n : Nat) : cntTo ms n ≤ n * ms.length := by
  induction n with
  | zero => simp [cntTo]
  | succ n ih =>
    have := part_le (n : Int) ms
    simp only [cntTo]
    rw [Nat.add_mul]; omega
def InTo (ms : List Mark) (i : Nat) : Prop := ∀ m ∈ ms.take i, 0 ≤ m.f_Home ∧ m.f_Home < 3
theorem in_on {ms : List Mark} {i : Nat} {m : Mark} {al al' : Bool} (h : al = true ↔ InTo ms i) (hx : ms[((i : Int)).toNat]? = some m) (h' : al' = true ↔ (al = true ∧ 0 ≤ m.f_Home ∧ m.f_Home < 3)) : al' = true ↔ InTo ms (i + 1) := by
  have hx' : ms[i]? = some m := hx
  rw [h', h]
  unfold InTo
  rw [List.take_add_one, hx']
  simp only [Option.toList_some, List.mem_append, List.mem_singleton]
  constructor
  · rintro ⟨h1, h2⟩ y (hy | rfl)
    · exact h1 y hy
    · exact h2
  · intro h1
    exact ⟨fun y hy => h1 y (.inl hy), h1 m (.inr rfl)⟩
end Go.Proofs.Yteehongibjkjlaa
