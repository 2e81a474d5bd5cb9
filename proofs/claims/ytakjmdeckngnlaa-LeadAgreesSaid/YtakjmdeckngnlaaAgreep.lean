/- The law of LeadAgrees: at no place are two values chosen (plain, hand-written). -/
import Derived.Test.YtakjmdeckngnlaaVotep
import Derived.Test.YtakjmdeckngnlaaLaws
set_option linter.unusedVariables false
set_option linter.unusedSimpArgs false
namespace Go.Proofs.Ytakjmdeckngnlaa
open Go.RowKit Classical
/-! ### Majorities -/
theorem nodup_len : ∀ (n : Nat) (Q : List Int), Q.Nodup → (∀ k ∈ Q, 0 ≤ k ∧ k < n) → Q.length ≤ n
  | 0, Q, _, h => by
    cases Q with
    | nil => exact Nat.le_refl _
    | cons k Q => have := h k (by simp); omega
  | n + 1, Q, hq, h => by
    by_cases hm : (n : Int) ∈ Q
    · have h1 := nodup_len n (Q.erase (n : Int)) (hq.erase _) fun k hk => by
        have h2 := (hq.mem_erase_iff).1 hk
        have h3 := h k h2.2
        have h4 := h2.1
        omega
      rw [List.length_erase_of_mem hm] at h1
      omega
    · have h1 := nodup_len n Q hq fun k hk => by
        have h3 := h k hk
        have h4 : k ≠ (n : Int) := fun e => hm (e ▸ hk)
        omega
      omega
theorem quorum {n : Nat} {Q R : List Int} (hq : Q.Nodup) (hr : R.Nodup) (h1 : ∀ k ∈ Q, 0 ≤ k ∧ k < n) (h2 : ∀ k ∈ R, 0 ≤ k ∧ k < n) (hl : n < Q.length + R.length) : ∃ k, k ∈ Q ∧ k ∈ R := by
  by_cases h : ∃ k, k ∈ Q ∧ k ∈ R
  · exact h
  · exfalso
    have h3 : (Q ++ R).Nodup := List.nodup_append.2 ⟨hq, hr, fun a ha b hb e => h ⟨a, ha, e ▸ hb⟩⟩
    have h4 := nodup_len n (Q ++ R) h3 fun k hk => by
      rcases List.mem_append.1 hk with h5 | h5
      · exact h1 k h5
      · exact h2 k h5
    rw [List.length_append] at h4
    omega
/-! ### What has been voted -/
abbrev Hist := List (Int × Int × Int × Int)
def Chosen (n : Nat) (H : Hist) (s β y : Int) : Prop := ∃ Q : List Int, Q.Nodup ∧ n < 2 * Q.length ∧ ∀ w ∈ Q, (0 ≤ w ∧ w < n) ∧ (w, s, β, y) ∈ H
def Safe (n : Nat) (V : Int → VSB) (H : Hist) (s β x : Int) : Prop := ∃ Q : List Int, Q.Nodup ∧ n < 2 * Q.length ∧ (∀ w ∈ Q, (0 ≤ w ∧ w < n) ∧ β ≤ (V w).pr) ∧
  ((∀ w ∈ Q, ∀ β' x', (w, s, β', x') ∈ H → ¬ β' < β) ∨ ∃ β0 w0, β0 < β ∧ (w0, s, β0, x) ∈ H ∧ ∀ w ∈ Q, ∀ β' x', (w, s, β', x') ∈ H → β' < β → β' ≤ β0)
theorem agree_step {n : Nat} {V : Int → VSB} {H : Hist} {s β1 x1 : Int} (one : ∀ w w' s β x x', (w, s, β, x) ∈ H → (w', s, β, x') ∈ H → x = x') (safe : ∀ w s β x, (w, s, β, x) ∈ H → Safe n V H s β x) (hc : Chosen n H s β1 x1) :
    ∀ (k : Nat) (w β x : Int), (w, s, β, x) ∈ H → β1 ≤ β → β - β1 = k → x = x1 := by
  intro k
  induction k using Nat.strongRecOn with
  | _ k ih =>
    intro w β x hw hle hk
    obtain ⟨Q, hQ, hn, hv⟩ := hc
    by_cases he : β = β1
    · subst he
      cases Q with
      | nil => simp at hn
      | cons q Q => exact one w q s β x x1 hw (hv q (by simp)).2
    · obtain ⟨R, hR, hm, hp, hs⟩ := safe w s β x hw
      obtain ⟨q, hq1, hq2⟩ := quorum hQ hR (fun k hk => (hv k hk).1) (fun k hk => (hp k hk).1) (by omega)
      have hvq := (hv q hq1).2
      rcases hs with hs | ⟨β0, w0, hb0, hw0, hs⟩
      · exact absurd (show β1 < β by omega) (hs q hq2 β1 x1 hvq)
      · have h1 := hs q hq2 β1 x1 hvq (by omega)
        exact ih (β0 - β1).toNat (by omega) w0 β0 x hw0 h1 (by omega)
theorem agree {n : Nat} {V : Int → VSB} {H : Hist} {s β1 β2 x1 x2 : Int} (one : ∀ w w' s β x x', (w, s, β, x) ∈ H → (w', s, β, x') ∈ H → x = x') (safe : ∀ w s β x, (w, s, β, x) ∈ H → Safe n V H s β x) (h1 : Chosen n H s β1 x1) (h2 : Chosen n H s β2 x2) : x1 = x2 := by
  have get : ∀ {β x}, Chosen n H s β x → ∃ w, (w, s, β, x) ∈ H := fun ⟨Q, _, hn, hv⟩ => by
    cases Q with
    | nil => simp at hn
    | cons q Q => exact ⟨q, (hv q (by simp)).2⟩
  rcases Int.le_total β1 β2 with h | h
  · obtain ⟨w, hw⟩ := get h2
    exact (agree_step one safe h1 (β2 - β1).toNat w β2 x2 hw h (by omega)).symm
  · obtain ⟨w, hw⟩ := get h1
    exact agree_step one safe h2 (β1 - β2).toNat w β1 x1 hw h (by omega)
/-! ### The invariant -/
def keys (D : List (Int × Int)) : List Int := D.map Prod.fst
structure ToldOk (H : Hist) (l : LdS Int) (β : Int) : Prop where
  no : ∀ s, mget l.told s = none → ∀ w ∈ keys l.prom, ∀ β' x', (w, s, β', x') ∈ H → ¬ β' < β
  lt : ∀ s v, mget l.told s = some v → v.Ballot < β
  src : ∀ s v, mget l.told s = some v → ∃ w0, (w0, s, v.Ballot, v.Value) ∈ H
  top : ∀ s v, mget l.told s = some v → ∀ w ∈ keys l.prom, ∀ β' x', (w, s, β', x') ∈ H → β' < β → β' ≤ v.Ballot
structure Ag (n : Nat) (V : Int → VSB) (Lf : Int → LdS Int) (H : Hist) : Prop where
  vok : ∀ w, OkVB (V w)
  hpr : ∀ w s β x, (w, s, β, x) ∈ H → β ≤ (V w).pr
  hxs : ∀ w s β x, (w, s, β, x) ∈ H → ∃ y ∈ (V w).xs, y.f_key = s ∧ β ≤ y.f_value.Ballot
  xsH : ∀ w, ∀ y ∈ (V w).xs, (w, y.f_key, y.f_value.Ballot, y.f_value.Value) ∈ H
  one : ∀ w w' s β x x', (w, s, β, x) ∈ H → (w', s, β, x') ∈ H → x = x'
  safe : ∀ w s β x, (w, s, β, x) ∈ H → Safe n V H s β x
  hb : ∀ w s β x, (w, s, β, x) ∈ H → (Lf (β - 1)).leads = true ∧ s ≤ (Lf (β - 1)).slot ∧ (s = (Lf (β - 1)).slot → (Lf (β - 1)).value 0 = (x, true))
  vn : ∀ b, (Lf b).voters = n
  pn : ∀ b, (keys (Lf b).prom).Nodup
  pk : ∀ b, ∀ k ∈ keys (Lf b).prom, (0 ≤ k ∧ k < n) ∧ b + 1 ≤ (V k).pr
  told : ∀ b, ToldOk H (Lf b) (b + 1)
  tn : ∀ b, (keys (Lf b).tak).Nodup
  tk : ∀ b, ∀ k ∈ keys (Lf b).tak, (0 ≤ k ∧ k < n) ∧ ∃ x, (k, (Lf b).slot, b + 1, x) ∈ H
theorem Ag.agree {n : Nat} {V : Int → VSB} {Lf : Int → LdS Int} {H : Hist} (h : Ag n V Lf H) {s β1 β2 x1 x2 : Int} (h1 : Chosen n H s β1 x1) (h2 : Chosen n H s β2 x2) : x1 = x2 := Go.Proofs.Ytakjmdeckngnlaa.agree h.one h.safe h1 h2
def fup {σ : Type} (V : Int → σ) (w : Int) (s : σ) : Int → σ := fun k => if k = w then s else V k
theorem fup_same {σ : Type} {V : Int → σ} {w : Int} {s : σ} : fup V w s w = s := if_pos rfl
theorem fup_ne {σ : Type} {V : Int → σ} {w k : Int} {s : σ} (h : k ≠ w) : fup V w s k = V k := if_neg h
theorem fup_id {σ : Type} {V : Int → σ} {w : Int} : fup V w (V w) = V := funext fun k => by unfold fup; split <;> simp_all
/-- Promised ballots rise: what was safe stays safe. -/
theorem Safe.mono {n : Nat} {V V2 : Int → VSB} {H : Hist} {s β x : Int} (h : Safe n V H s β x) (hv : ∀ k, (V k).pr ≤ (V2 k).pr) : Safe n V2 H s β x := by
  obtain ⟨Q, h1, h2, h3, h4⟩ := h
  exact ⟨Q, h1, h2, fun w hw => ⟨(h3 w hw).1, Int.le_trans (h3 w hw).2 (hv w)⟩, h4⟩
theorem Safe.vote {n : Nat} {V : Int → VSB} {H : Hist} {s β x w s2 β2 x2 : Int} (h : Safe n V H s β x) (hv : (V w).pr ≤ β2) : Safe n V ((w, s2, β2, x2) :: H) s β x := by
  obtain ⟨Q, h1, h2, h3, h4⟩ := h
  refine ⟨Q, h1, h2, h3, ?_⟩
  rcases h4 with h4 | ⟨β0, w0, hb, hw, h4⟩
  · left
    intro q hq β' x' hm
    rcases List.mem_cons.1 hm with e | hm
    · cases e
      have := (h3 w hq).2
      omega
    · exact h4 q hq β' x' hm
  · right
    refine ⟨β0, w0, hb, List.mem_cons_of_mem _ hw, fun q hq β' x' hm hlt => ?_⟩
    rcases List.mem_cons.1 hm with e | hm
    · cases e
      have := (h3 w hq).2
      omega
    · exact h4 q hq β' x' hm hlt
/-! ### A leader's value does not change while it stands -/
theorem offer_state {l : LdS Int} {x : Int} : ((l.offer 0 x).2 = l) ∨ ((l.offer 0 x).2 = { l with off := [x] } ∧ (l.value 0).2 = false) := by
  unfold LdS.offer
  split
  · exact .inl rfl
  · rename_i h
    right
    simp only [Bool.or_eq_true, not_or, Bool.not_eq_true] at h
    exact ⟨rfl, h.1.1⟩
theorem keys_inc {D : List (Int × Int)} {k j : Int} : j ∈ keys (inc D k) ↔ j = k ∨ j ∈ keys D := by
  have hk : ∀ (D : List (Int × Int)) (j : Int), j ∈ keys D ↔ (mget D j).isSome = true := by
    intro D j
    induction D with
    | nil => simp [keys, mget_nil]
    | cons d D ih =>
      obtain ⟨a, c⟩ := d
      rw [mget_cons]
      show j ∈ a :: keys D ↔ _
      rw [List.mem_cons, ih]
      split
      · rename_i e; simp [e.symm]
      · rename_i e; constructor
        · rintro (h | h)
          · exact absurd h.symm e
          · exact h
        · exact .inr
  rw [hk, hk, inc, mget_set]
  split
  · rename_i e; simp [e.symm]
  · rename_i e; constructor
    · exact .inr
    · rintro (h | h)
      · exact absurd h.symm e
      · exact h
end Go.Proofs.Ytakjmdeckngnlaa
