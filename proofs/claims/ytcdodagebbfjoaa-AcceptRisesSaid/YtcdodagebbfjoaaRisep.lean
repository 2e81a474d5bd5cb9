/- The law of AcceptRises: plain (hand-written). -/
import Derived.Test.YtcdodagebbfjoaaVotep
set_option linter.unusedVariables false
set_option linter.unusedSimpArgs false
namespace Go.Proofs.Ytcdodagebbfjoaa
open Go.RowKit Classical
structure RStep (s : VSB) (b : Int) (ok : Bool) (s2 : VSB) : Prop where
  okv : OkVB s2
  pr : s.pr ≤ s2.pr
  yes : ok = true → s2.pr = b ∧ s.pr ≤ b
  xs : ∀ y ∈ s2.xs, y ∈ s.xs ∨ s.pr ≤ y.f_value.f_Ballot
theorem rstep_prom {s : VSB} {b : Int} {ok : Bool} (h : OkVB s) (hok : decide (s.pr ≤ b) = ok) : RStep s b ok (promSB s b) where
  okv := okV_promSB h
  pr := by unfold promSB; split <;> first | assumption | exact Int.le_refl _
  yes h1 := by
    rw [h1, decide_eq_true_eq] at hok
    rw [show promSB s b = _ from if_pos hok]
    exact ⟨rfl, hok⟩
  xs y hy := by
    unfold promSB at hy
    split at hy <;> exact .inl hy
theorem rstep_acc {s : VSB} {v : VoI} {ok : Bool} (h : OkVB s) (hok : decide (accOkB s v) = ok) : RStep s v.f_Ballot ok (accSB s v) where
  okv := okV_accSB h
  pr := by
    unfold accSB
    split
    · rename_i h1; exact h1.1
    · exact Int.le_refl _
  yes h1 := by
    rw [h1, decide_eq_true_eq] at hok
    rw [show accSB s v = _ from if_pos hok]
    exact ⟨rfl, hok.1⟩
  xs y hy := by
    unfold accSB at hy
    split at hy
    · rename_i h1
      rcases mem_ins hy with rfl | hy
      · exact .inr h1.1
      · exact .inl hy
    · exact .inl hy
structure RisesA (s : VSB) (A : List Int) : Prop where
  len : A.length = 64
  at_ : ∀ y ∈ s.xs, ∀ v, A[y.f_key.toNat]? = some v → v ≤ y.f_value.f_Ballot
  pr : ∀ v ∈ A, v ≤ s.pr
theorem risesA_0 : RisesA (⟨0, []⟩ : VSB) (List.replicate 64 (0 : Int)) := ⟨List.length_replicate, fun y hy => (by simp at hy), fun v hv => by rw [List.eq_of_mem_replicate hv]; exact Int.le_refl _⟩
theorem RisesA.step {s s2 : VSB} {b : Int} {ok : Bool} {A : List Int} (h : RisesA s A) (hr : RStep s b ok s2) : RisesA s2 A where
  len := h.len
  at_ y hy v hv := by
    rcases hr.xs y hy with h1 | h1
    · exact h.at_ y h1 v hv
    · exact Int.le_trans (h.pr v (List.mem_of_getElem? hv)) h1
  pr v hv := Int.le_trans (h.pr v hv) hr.pr
theorem RisesA.set {s : VSB} {A : List Int} {y : ItB} (h : RisesA s A) (ok : OkVB s) (hy : y ∈ s.xs) : RisesA s (A.set y.f_key.toNat y.f_value.f_Ballot) where
  len := by rw [List.length_set]; exact h.len
  at_ z hz v hv := by
    rw [List.getElem?_set] at hv
    split at hv
    · rename_i he
      split at hv
      · cases hv
        have hb1 := ok.bd y hy
        have hb2 := ok.bd z hz
        have hk : y.f_key = z.f_key := by omega
        have hyz : y = z := by
          have hp := ok.srt
          obtain ⟨i, hi, rfl⟩ := List.mem_iff_getElem.1 hy
          obtain ⟨j, hj, rfl⟩ := List.mem_iff_getElem.1 hz
          have hp' := List.pairwise_iff_getElem.1 hp
          rcases Nat.lt_trichotomy i j with h1 | h1 | h1
          · have h2 : s.xs[i].f_key < s.xs[j].f_key := hp' i j hi hj h1
            omega
          · subst h1; rfl
          · have h2 : s.xs[j].f_key < s.xs[i].f_key := hp' j i hj hi h1
            omega
        subst hyz
        exact Int.le_refl _
      · cases hv
    · exact h.at_ z hz v hv
  pr v hv := by
    rcases List.mem_or_eq_of_mem_set hv with h1 | rfl
    · exact h.pr v h1
    · exact ok.bl y hy
theorem rises_get {s : VSB} {j : Nat} {x : VoI} (ok : OkVB s) (hx : (s.xs.map ItB.f_value)[j]? = some x) : ∃ y ∈ s.xs, y.f_value = x ∧ x.f_Slot = y.f_key ∧ 0 ≤ x.f_Slot ∧ x.f_Slot < 64 ∧ x.f_Ballot ≤ s.pr := by
  rw [List.getElem?_map] at hx
  obtain ⟨y, hy, rfl⟩ := Option.map_eq_some_iff.1 hx
  have hm := List.mem_of_getElem? hy
  have h1 := ok.bd y hm
  have h2 := ok.sl y hm
  exact ⟨y, hm, rfl, h2, by omega, by omega, ok.bl y hm⟩
theorem rises_end {s : VSB} {A : List Int} {y : ItB} {x : VoI} (h : RisesA s A) (ok : OkVB s) (hy : y ∈ s.xs) (he : y.f_value = x) (hs : x.f_Slot = y.f_key) : RisesA s (A.set x.f_Slot.toNat x.f_Ballot) := by
  subst he
  rw [hs]
  exact h.set ok hy
end Go.Proofs.Ytcdodagebbfjoaa
