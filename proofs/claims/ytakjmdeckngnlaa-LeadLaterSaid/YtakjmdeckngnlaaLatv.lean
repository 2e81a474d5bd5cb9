/- The law of LeadLater: the voters' part, plain (hand-written). -/
import Derived.Test.YtakjmdeckngnlaaVot
import Derived.Test.YtakjmdeckngnlaaLaterp
import Derived.Test.YtakjmdeckngnlaaBits
set_option linter.unusedVariables false
set_option linter.unusedSimpArgs false
namespace Go.Proofs.Ytakjmdeckngnlaa
open Go.RowKit Classical
/-! ### Many voters -/
def vsR (gs : List (Nat × VSA)) : Res := stars (gs.map fun z => VtA z.1 z.2)
section
variable {W w : World} {L : List Res}
theorem Sat.v_take {gs : List (Nat × VSA)} {i : Nat} {z : Nat × VSA} (hk : gs[i]? = some z) (S : Sat W w (vsR gs :: L)) : Sat W w (VtA z.1 z.2 :: vsR (gs.eraseIdx i) :: L) := by
  have hp := erase_perm hk
  exact Sat.stars_cons (Rs := (gs.eraseIdx i).map fun z => VtA z.1 z.2) (S.stars_perm (hp.symm.map fun z => VtA z.1 z.2))
theorem Sat.v_set {gs : List (Nat × VSA)} {i : Nat} {k : Nat} {s : VSA} (hi : i < gs.length) (S : Sat W w (VtA k s :: vsR (gs.eraseIdx i) :: L)) : Sat W w (vsR (gs.set i (k, s)) :: L) := by
  have hp := set_perm (k := (k, s)) hi
  exact (Sat.stars_uncons S).stars_perm ((hp.symm).map fun z => VtA z.1 z.2)
theorem Sat.v_app {gs : List (Nat × VSA)} {k : Nat} {s : VSA} (S : Sat W w (VtA k s :: vsR gs :: L)) : Sat W w (vsR (gs ++ [(k, s)]) :: L) := by
  have hp : ((k, s) :: gs).Perm (gs ++ [(k, s)]) := List.perm_append_comm (l₁ := [(k, s)]) (l₂ := gs)
  exact (Sat.stars_uncons S).stars_perm (hp.map fun z => VtA z.1 z.2)
end
/-! ### What they know -/
def stL (b : Bool) : VSA := ⟨1, if b then [⟨0, vCh⟩] else []⟩
theorem prom_new : promSA (⟨0, []⟩ : VSA) 1 = stL false := if_pos (by decide)
theorem pl_new : promLA (⟨0, []⟩ : VSA) 1 0 = [] := by
  rw [show promLA (⟨0, []⟩ : VSA) 1 0 = _ from if_pos (by decide)]
  show (sel ItA.f_key ilt (some 0) ([] : List ItA)).map ItA.f_value = _
  rw [sel_nil]; rfl
theorem acc_yes : accOkA (stL false) vCh := ⟨Int.le_refl _, by decide, by decide⟩
theorem acc_st : accSA (stL false) vCh = stL true := if_pos acc_yes
theorem pl_two (b : Bool) : promLA (stL b) 2 0 = if b then [vCh] else [] := by
  rw [show promLA (stL b) 2 0 = _ from if_pos (by show (1 : Int) ≤ 2; decide)]
  cases b with
  | true =>
    show (sel ItA.f_key ilt (some 0) [(⟨0, vCh⟩ : ItA)]).map ItA.f_value = _
    rw [sel_ge (fun y hy => by simp at hy; subst hy; exact fun h => absurd h (by decide))]
    rfl
  | false =>
    show (sel ItA.f_key ilt (some 0) ([] : List ItA)).map ItA.f_value = _
    rw [sel_nil]; rfl
structure V1 (gs : List (Nat × VSA)) (i : Nat) : Prop where
  len : gs.length = i
  st : ∀ z ∈ gs, z.2 = stL false
theorem v1_0 : V1 [] 0 := ⟨rfl, fun z hz => by simp at hz⟩
theorem V1.app {gs : List (Nat × VSA)} {i k : Nat} (h : V1 gs i) : V1 (gs ++ [(k, stL false)]) (i + 1) := ⟨by simp [h.len], fun z hz => by
  rcases List.mem_append.1 hz with h1 | h1
  · exact h.st z h1
  · rw [List.mem_singleton.1 h1]⟩
structure V2 (n : Nat) (T : List Bool) (ps : List Nat) (gs : List (Nat × VSA)) (i : Nat) : Prop where
  tl : T.length = i
  len : gs.length = n
  fst : gs.map Prod.fst = ps
  old : ∀ (j : Nat) (z : Nat × VSA), j < i → gs[j]? = some z → ∃ b, T[j]? = some b ∧ z.2 = stL b
  new : ∀ (j : Nat) (z : Nat × VSA), i ≤ j → gs[j]? = some z → z.2 = stL false
theorem V1.two {gs : List (Nat × VSA)} {n : Nat} (h : V1 gs n) : V2 n [] (gs.map Prod.fst) gs 0 := ⟨rfl, h.len, rfl, fun j z hj => by omega, fun j z _ hz => h.st z (List.mem_of_getElem? hz)⟩
theorem get_snoc {T : List Bool} {i j : Nat} {c : Bool} (hl : T.length = i) : (T ++ [c])[j]? = if j = i then some c else T[j]? := by
  split
  · rename_i h; subst h; rw [List.getElem?_append_right (by omega), hl, Nat.sub_self]; rfl
  · rename_i h
    by_cases h1 : j < i
    · rw [List.getElem?_append_left (by omega)]
    · rw [List.getElem?_eq_none (by simp; omega), List.getElem?_eq_none (by omega)]
theorem V2.no {n i : Nat} {T : List Bool} {ps : List Nat} {gs : List (Nat × VSA)} (h : V2 n T ps gs i) : V2 n (T ++ [false]) ps gs (i + 1) where
  tl := by simp [h.tl]
  len := h.len
  fst := h.fst
  old j z hj hz := by
    rw [get_snoc h.tl]
    split
    · rename_i e; exact ⟨false, rfl, h.new j z (by omega) hz⟩
    · exact h.old j z (by omega) hz
  new j z hj hz := h.new j z (by omega) hz
theorem fst_set {gs : List (Nat × VSA)} {i k : Nat} {z : Nat × VSA} {s : VSA} (hz : gs[i]? = some z) (hk : z.1 = k) : (gs.set i (k, s)).map Prod.fst = gs.map Prod.fst := by
  obtain ⟨hi, rfl⟩ := List.getElem?_eq_some_iff.1 hz
  subst hk
  rw [List.map_set]
  exact List.ext_getElem? fun j => by
    rw [List.getElem?_set]
    split
    · rename_i he; subst he
      rw [List.length_map, if_pos hi, List.getElem?_map, List.getElem?_eq_getElem hi]; rfl
    · rfl
theorem V2.yes {n i k : Nat} {T : List Bool} {ps : List Nat} {gs : List (Nat × VSA)} {z : Nat × VSA} (h : V2 n T ps gs i) (hz : gs[i]? = some z) (hk : z.1 = k) : V2 n (T ++ [true]) ps (gs.set i (k, stL true)) (i + 1) where
  tl := by simp [h.tl]
  len := by rw [List.length_set]; exact h.len
  fst := by rw [fst_set hz hk]; exact h.fst
  old j y hj hy := by
    rw [List.getElem?_set] at hy
    rw [get_snoc h.tl]
    split at hy
    · rename_i e
      split at hy
      · cases hy
        rw [if_pos e.symm]
        exact ⟨true, rfl, rfl⟩
      · cases hy
    · rename_i e
      rw [if_neg (fun h9 => e h9.symm)]
      exact h.old j y (by omega) hy
  new j y hj hy := by
    rw [List.getElem?_set_ne (by omega)] at hy
    exact h.new j y (by omega) hy
structure V3 (T : List Bool) (ps : List Nat) (gs : List (Nat × VSA)) (i : Nat) : Prop where
  len : gs.length = T.length
  fst : gs.map Prod.fst = ps
  st : ∀ (j : Nat) (z : Nat × VSA), i ≤ j → gs[j]? = some z → ∃ b, T[j]? = some b ∧ z.2 = stL b
theorem V2.three {n i : Nat} {T : List Bool} {ps : List Nat} {gs : List (Nat × VSA)} (h : V2 n T ps gs i) (hi : n = i) : V3 T ps gs 0 := ⟨by rw [h.len, h.tl, hi], h.fst, fun j z _ hz => h.old j z (by have := (List.getElem?_eq_some_iff.1 hz).1; have := h.len; omega) hz⟩
theorem V3.up {i : Nat} {T : List Bool} {ps : List Nat} {gs : List (Nat × VSA)} (h : V3 T ps gs i) : V3 T ps gs (i + 1) := ⟨h.len, h.fst, fun j z hj hz => h.st j z (by omega) hz⟩
theorem V3.set {i k : Nat} {T : List Bool} {ps : List Nat} {gs : List (Nat × VSA)} {z : Nat × VSA} {s : VSA} (h : V3 T ps gs i) (hz : gs[i]? = some z) (hk : z.1 = k) : V3 T ps (gs.set i (k, s)) (i + 1) where
  len := by rw [List.length_set]; exact h.len
  fst := by rw [fst_set hz hk]; exact h.fst
  st j y hj hy := by
    rw [List.getElem?_set_ne (by omega)] at hy
    exact h.st j y (by omega) hy
end Go.Proofs.Ytakjmdeckngnlaa
