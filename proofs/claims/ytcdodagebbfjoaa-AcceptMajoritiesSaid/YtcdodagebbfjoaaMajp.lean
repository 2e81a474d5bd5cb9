/- The law of AcceptMajorities: many voters, and how they are counted (hand-written). -/
import Derived.Test.YtcdodagebbfjoaaVot
import Derived.Test.YtcdodagebbfjoaaBits
set_option linter.unusedVariables false
set_option linter.unusedSimpArgs false
namespace Go.Proofs.Ytcdodagebbfjoaa
open Go.RowKit Classical
/-! ### Many voters -/
def vsR (gs : List (Nat × VSA)) : Res := stars (gs.map fun z => VtA z.1 z.2)
section
variable {W w : World} {L : List Res}
theorem Sat.v_take {gs : List (Nat × VSA)} {i : Nat} {z : Nat × VSA} (hk : gs[i]? = some z) (S : Sat W w (vsR gs :: L)) : Sat W w (VtA z.1 z.2 :: vsR (gs.eraseIdx i) :: L) := by
  have hp := erase_perm hk
  exact Sat.stars_cons (Rs := (gs.eraseIdx i).map fun z => VtA z.1 z.2) (S.stars_perm (hp.symm.map fun z => VtA z.1 z.2))
theorem Sat.v_set {gs : List (Nat × VSA)} {i : Nat} {k : Nat} {s : VSA} (hi : i < gs.length) (S : Sat W w (VtA k s :: vsR (gs.eraseIdx i) :: L)) : Sat W w (vsR (gs.set i (k, s)) :: L) := by
  have hp := set_perm (k := (k, s)) hi
  exact (Sat.stars_uncons S).stars_perm ((hp.symm).map fun z => VtA z.1 z.2)
theorem Sat.v_app {gs : List (Nat × VSA)} {k : Nat} {s : VSA} (S : Sat W w (VtA k s :: vsR gs :: L)) : Sat W w (vsR (gs ++ [(k, s)]) :: L) := by
  have hp : ((k, s) :: gs).Perm (gs ++ [(k, s)]) := List.perm_append_comm (l₁ := [(k, s)]) (l₂ := gs)
  exact (Sat.stars_uncons S).stars_perm (hp.map fun z => VtA z.1 z.2)
end
/-! ### Counting -/
def s5 : VSA := ⟨5, [⟨3, ⟨3, 5, ⟨#[120]⟩⟩⟩]⟩
def stT (b : Bool) : VSA := if b then s5 else ⟨0, []⟩
theorem pr_stT (b : Bool) : (stT b).pr ≤ 9 := by cases b <;> decide
theorem pl_true : promLA (stT true) 9 0 = [⟨3, 5, ⟨#[120]⟩⟩] := by
  rw [show promLA (stT true) 9 0 = _ from if_pos (pr_stT true)]
  show (sel ItA.f_key ilt (some 0) [(⟨3, ⟨3, 5, ⟨#[120]⟩⟩⟩ : ItA)]).map ItA.f_value = _
  rw [sel_ge (fun y hy => by simp at hy; subst hy; exact fun h => absurd h (by decide))]
  rfl
theorem pl_false : promLA (stT false) 9 0 = [] := by
  rw [show promLA (stT false) 9 0 = _ from if_pos (pr_stT false)]
  show (sel ItA.f_key ilt (some 0) ([] : List ItA)).map ItA.f_value = _
  rw [sel_nil]
  rfl
theorem acc_yes : accOkA (⟨0, []⟩ : VSA) (⟨3, 5, ⟨#[120]⟩⟩ : VoS) := by unfold accOkA; decide
theorem acc_s5 : accSA (⟨0, []⟩ : VSA) (⟨3, 5, ⟨#[120]⟩⟩ : VoS) = stT true := if_pos acc_yes
structure Maj1 (T : List Bool) (gs : List (Nat × VSA)) (i tk : Nat) : Prop where
  len : T.length = i
  st : gs.map Prod.snd = T.map stT
  tk : tk = T.count true
theorem maj1_0 : Maj1 [] [] 0 0 := ⟨rfl, rfl, rfl⟩
theorem Maj1.yes {T : List Bool} {gs : List (Nat × VSA)} {i tk k : Nat} (h : Maj1 T gs i tk) : Maj1 (T ++ [true]) (gs ++ [(k, stT true)]) (i + 1) (tk + 1) := ⟨by simp [h.len], by simp [h.st], by simp [h.tk]⟩
theorem Maj1.no {T : List Bool} {gs : List (Nat × VSA)} {i tk k : Nat} (h : Maj1 T gs i tk) : Maj1 (T ++ [false]) (gs ++ [(k, stT false)]) (i + 1) tk := ⟨by simp [h.len], by simp [h.st], by simp [h.tk]⟩
theorem Maj1.glen {T : List Bool} {gs : List (Nat × VSA)} {i tk : Nat} (h : Maj1 T gs i tk) : gs.length = i := by
  have := congrArg List.length h.st
  simp only [List.length_map] at this
  rw [this, h.len]
structure Maj2 (T : List Bool) (ps : List Nat) (gs : List (Nat × VSA)) (i td : Nat) (fo : Bool) : Prop where
  len : gs.length = T.length
  fst : gs.map Prod.fst = ps
  st : ∀ (j : Nat) (z : Nat × VSA), i ≤ j → gs[j]? = some z → ∃ b, T[j]? = some b ∧ z.2 = stT b
  cnt : fo = false → td + (T.take i).count true ≤ i
  le : td ≤ i
theorem Maj1.two {T : List Bool} {gs : List (Nat × VSA)} {i tk : Nat} (h : Maj1 T gs i tk) : Maj2 T (gs.map Prod.fst) gs 0 0 false where
  len := by rw [h.glen, h.len]
  fst := rfl
  st j z _ hz := by
    have h1 : (gs.map Prod.snd)[j]? = some z.2 := by rw [List.getElem?_map, hz]; rfl
    rw [h.st, List.getElem?_map] at h1
    obtain ⟨b, hb, he⟩ := Option.map_eq_some_iff.1 h1
    exact ⟨b, hb, he.symm⟩
  cnt _ := by simp
  le := Nat.le_refl _
theorem Maj2.skip {T : List Bool} {ps : List Nat} {gs : List (Nat × VSA)} {i td : Nat} {fo : Bool} (h : Maj2 T ps gs i td fo) (hi : i < T.length) : Maj2 T ps gs (i + 1) td fo where
  len := h.len
  fst := h.fst
  st j z hj hz := h.st j z (by omega) hz
  cnt hf := by
    have h1 := h.cnt hf
    rw [List.take_succ_eq_append_getElem hi, List.count_append]
    have h2 : [T[i]].count true ≤ 1 := by
      have := List.count_le_length (a := true) (l := [T[i]])
      simpa using this
    omega
  le := by have := h.le; omega
theorem Maj2.tell {T : List Bool} {ps : List Nat} {gs : List (Nat × VSA)} {i td k : Nat} {fo tb : Bool} {z : Nat × VSA} {s : VSA} (h : Maj2 T ps gs i td fo) (hz : gs[i]? = some z) (hk : z.1 = k) (ht : T[i]? = some tb) : Maj2 T ps (gs.set i (k, s)) (i + 1) (td + 1) (fo || tb) where
  len := by rw [List.length_set]; exact h.len
  fst := by
    obtain ⟨hi, rfl⟩ := List.getElem?_eq_some_iff.1 hz
    subst hk
    rw [List.map_set, ← h.fst]
    exact List.ext_getElem? fun j => by
      rw [List.getElem?_set]
      split
      · rename_i he; subst he
        rw [List.length_map, if_pos hi, List.getElem?_map, List.getElem?_eq_getElem hi]; rfl
      · rfl
  st j y hj hy := by
    rw [List.getElem?_set_ne (by omega)] at hy
    exact h.st j y (by omega) hy
  cnt hf := by
    rw [Bool.or_eq_false_iff] at hf
    have h1 := h.cnt hf.1
    obtain ⟨hi, he⟩ := List.getElem?_eq_some_iff.1 ht
    rw [List.take_succ_eq_append_getElem hi, List.count_append, he, hf.2]
    simp
    omega
  le := by have := h.le; omega
theorem maj_end {T : List Bool} {ps : List Nat} {gs : List (Nat × VSA)} {i td tk n : Nat} {fo : Bool} (h : Maj2 T ps gs i td fo) (hT : T.length = n) (hi : n ≤ i) (hi2 : i ≤ n) (ht : tk = T.count true) (h1 : n < 2 * tk) (h2 : n < 2 * td) : fo = true := by
  cases fo with
  | true => rfl
  | false =>
    have := h.cnt rfl
    rw [List.take_of_length_le (by omega)] at this
    omega
end Go.Proofs.Ytcdodagebbfjoaa
