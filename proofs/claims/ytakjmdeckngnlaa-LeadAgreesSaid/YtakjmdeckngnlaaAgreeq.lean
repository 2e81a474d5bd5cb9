/- The law of LeadAgrees: the steps keep the invariant (plain, hand-written). -/
import Derived.Test.YtakjmdeckngnlaaAgreep
set_option linter.unusedVariables false
set_option linter.unusedSimpArgs false
namespace Go.Proofs.Ytakjmdeckngnlaa
open Go.RowKit Classical
theorem mat_get : ∀ (D : List (Int × Int)) (k : Int) (i : Nat) (c : Int), mat D k = some (i, c) → D[i]? = some (k, c)
  | [], k, i, c, h => by cases h
  | (j, b) :: D, k, i, c, h => by
    rw [mat] at h
    split at h
    · rename_i e; cases h; subst e; rfl
    · cases hm : mat D k with
      | none => rw [hm] at h; cases h
      | some p =>
        rw [hm] at h
        cases h
        exact mat_get D k p.1 p.2 hm
theorem keys_mset (D : List (Int × Int)) (k b : Int) : keys (mset D k b) = if mget D k = none then keys D ++ [k] else keys D := by
  unfold mset mget
  cases hm : mat D k with
  | none => simp [keys]
  | some p =>
    obtain ⟨i, c⟩ := p
    have h1 := mat_get D k i c hm
    obtain ⟨hi, he⟩ := List.getElem?_eq_some_iff.1 h1
    simp only [Option.map_some]
    rw [if_neg (by simp)]
    unfold keys
    rw [List.map_set]
    exact List.ext_getElem? fun j => by
      rw [List.getElem?_set]
      split
      · rename_i e; subst e
        rw [List.length_map, if_pos hi, List.getElem?_map, List.getElem?_eq_getElem hi, he]; rfl
      · rfl
theorem mem_keys {D : List (Int × Int)} {j : Int} : j ∈ keys D ↔ (mget D j).isSome = true := by
  induction D with
  | nil => simp [keys, mget_nil]
  | cons d D ih =>
    obtain ⟨a, c⟩ := d
    rw [mget_cons]
    show j ∈ a :: keys D ↔ _
    rw [List.mem_cons, ih]
    split
    · rename_i e; simp [e.symm]
    · rename_i e; constructor
      · rintro (h | h)
        · exact absurd h.symm e
        · exact h
      · exact .inr
theorem nodup_inc {D : List (Int × Int)} {k : Int} (h : (keys D).Nodup) : (keys (inc D k)).Nodup := by
  unfold inc
  rw [keys_mset]
  split
  · rename_i hn
    refine List.nodup_append.2 ⟨h, by simp, fun a ha b hb e => ?_⟩
    rw [List.mem_singleton.1 hb] at e
    have h1 := mem_keys.1 ha
    rw [e, hn] at h1
    cases h1
  · exact h
theorem len_keys (D : List (Int × Int)) : (keys D).length = D.length := List.length_map _
/-! ### What is told -/
theorem upd_get {z v : Vt Int} {D : List (Int × Vt Int)} {s : Int} : mget (upd z D v) s = if v.Slot = s ∧ (mget D s = none ∨ ∃ u, mget D s = some u ∧ u.Ballot < v.Ballot) then some v else mget D s := by
  unfold upd
  by_cases he : v.Slot = s
  · subst he
    cases hm : mget D v.Slot with
    | none => simp [hm, mget_set]
    | some u =>
      by_cases hb : u.Ballot < v.Ballot
      · simp [hm, hb, mget_set]
      · simp [hm, hb]
  · conv => rhs; rw [if_neg (fun h => he h.1)]
    split
    · rw [mget_set, if_neg he]
    · rfl
theorem fold_a {z : Vt Int} : ∀ (L : List (Vt Int)) (D : List (Int × Vt Int)) (s : Int) (v : Vt Int), mget (L.foldl (upd z) D) s = some v → mget D s = some v ∨ (v ∈ L ∧ v.Slot = s)
  | [], D, s, v, h => .inl h
  | u :: L, D, s, v, h => by
    rcases fold_a L (upd z D u) s v h with h1 | ⟨h1, h2⟩
    · rw [upd_get] at h1
      split at h1
      · rename_i hc; cases h1; exact .inr ⟨by simp, hc.1⟩
      · exact .inl h1
    · exact .inr ⟨by simp [h1], h2⟩
theorem upd_b {z u : Vt Int} {D : List (Int × Vt Int)} {s : Int} {v0 : Vt Int} (h : mget D s = some v0) : ∃ v, mget (upd z D u) s = some v ∧ v0.Ballot ≤ v.Ballot := by
  rw [upd_get]
  split
  · rename_i hc
    obtain ⟨_, hn | ⟨w, hw, hb⟩⟩ := hc
    · rw [h] at hn; cases hn
    · rw [h] at hw; cases hw; exact ⟨u, rfl, Int.le_of_lt hb⟩
  · exact ⟨v0, h, Int.le_refl _⟩
theorem fold_b {z : Vt Int} : ∀ (L : List (Vt Int)) (D : List (Int × Vt Int)) (s : Int) (v0 : Vt Int), mget D s = some v0 → ∃ v, mget (L.foldl (upd z) D) s = some v ∧ v0.Ballot ≤ v.Ballot
  | [], D, s, v0, h => ⟨v0, h, Int.le_refl _⟩
  | u :: L, D, s, v0, h => by
    obtain ⟨v1, h1, h2⟩ := upd_b (z := z) (u := u) h
    obtain ⟨v, h3, h4⟩ := fold_b L (upd z D u) s v1 h1
    exact ⟨v, h3, Int.le_trans h2 h4⟩
theorem fold_c {z : Vt Int} : ∀ (L : List (Vt Int)) (D : List (Int × Vt Int)) (u : Vt Int), u ∈ L → ∃ v, mget (L.foldl (upd z) D) u.Slot = some v ∧ u.Ballot ≤ v.Ballot
  | x :: L, D, u, hu => by
    rcases List.mem_cons.1 hu with rfl | hu
    · have h1 : ∃ v, mget (upd z D u) u.Slot = some v ∧ u.Ballot ≤ v.Ballot := by
        rw [upd_get]
        split
        · exact ⟨u, rfl, Int.le_refl _⟩
        · rename_i hc
          cases hm : mget D u.Slot with
          | none => exact absurd ⟨rfl, .inl hm⟩ hc
          | some w =>
            refine ⟨w, rfl, ?_⟩
            by_cases hb : w.Ballot < u.Ballot
            · exact absurd ⟨rfl, .inr ⟨w, hm, hb⟩⟩ hc
            · omega
      obtain ⟨v1, h2, h3⟩ := h1
      obtain ⟨v, h4, h5⟩ := fold_b L (upd z D u) u.Slot v1 h2
      exact ⟨v, h4, Int.le_trans h3 h5⟩
    · exact fold_c L (upd z D x) u hu
/-! ### The steps -/
/-- One leader changes. -/
theorem Ag.lead {n : Nat} {V : Int → VSB} {Lf : Int → LdS Int} {H : Hist} (h : Ag n V Lf H) (b : Int) (l : LdS Int)
    (hb : ∀ w s x, (w, s, b + 1, x) ∈ H → l.leads = true ∧ s ≤ l.slot ∧ (s = l.slot → l.value 0 = (x, true))) (vn : l.voters = n) (pn : (keys l.prom).Nodup) (pk : ∀ k ∈ keys l.prom, (0 ≤ k ∧ k < n) ∧ b + 1 ≤ (V k).pr)
    (told : ToldOk H l (b + 1)) (tn : (keys l.tak).Nodup) (tk : ∀ k ∈ keys l.tak, (0 ≤ k ∧ k < n) ∧ ∃ x, (k, l.slot, b + 1, x) ∈ H) : Ag n V (fup Lf b l) H where
  vok := h.vok
  hpr := h.hpr
  hxs := h.hxs
  xsH := h.xsH
  one := h.one
  safe := h.safe
  hb w s β x hm := by
    by_cases e : β - 1 = b
    · rw [e, fup_same]; exact hb w s x (by rw [← e]; simpa using hm)
    · rw [fup_ne e]; exact h.hb w s β x hm
  vn c := by by_cases e : c = b; (rw [e, fup_same]; exact vn); (rw [fup_ne e]; exact h.vn c)
  pn c := by by_cases e : c = b; (rw [e, fup_same]; exact pn); (rw [fup_ne e]; exact h.pn c)
  pk c := by by_cases e : c = b; (rw [e, fup_same]; exact pk); (rw [fup_ne e]; exact h.pk c)
  told c := by by_cases e : c = b; (rw [e, fup_same]; exact told); (rw [fup_ne e]; exact h.told c)
  tn c := by by_cases e : c = b; (rw [e, fup_same]; exact tn); (rw [fup_ne e]; exact h.tn c)
  tk c := by by_cases e : c = b; (rw [e, fup_same]; exact tk); (rw [fup_ne e]; exact h.tk c)
/-- A leader is offered a value. -/
theorem Ag.offer {n : Nat} {V : Int → VSB} {Lf : Int → LdS Int} {H : Hist} (h : Ag n V Lf H) (b x : Int) : Ag n V (fup Lf b ((Lf b).offer 0 x).2) H := by
  rcases offer_state (l := Lf b) (x := x) with e | ⟨e, hv⟩
  · rw [e, fup_id]; exact h
  · rw [e]
    have ht := h.told b
    refine h.lead b _ (fun w s y hm => ?_) (h.vn b) (h.pn b) (h.pk b) ⟨ht.no, ht.lt, ht.src, ht.top⟩ (h.tn b) (h.tk b)
    have h1 := h.hb w s (b + 1) y hm
    rw [show b + 1 - 1 = b by omega] at h1
    refine ⟨h1.1, h1.2.1, fun he => ?_⟩
    have h2 := h1.2.2 he
    rw [h2] at hv
    cases hv
/-- A voter promises a ballot. -/
theorem Ag.rise {n : Nat} {V : Int → VSB} {Lf : Int → LdS Int} {H : Hist} (h : Ag n V Lf H) (w β : Int) : Ag n (fup V w (promSB (V w) β)) Lf H := by
  have hmono : ∀ k, (V k).pr ≤ (fup V w (promSB (V w) β) k).pr := fun k => by
    by_cases e : k = w
    · subst e; rw [fup_same]; unfold promSB; split <;> first | assumption | exact Int.le_refl _
    · rw [fup_ne e]; exact Int.le_refl _
  have hxs : ∀ k, (fup V w (promSB (V w) β) k).xs = (V k).xs := fun k => by
    by_cases e : k = w
    · subst e; rw [fup_same]; unfold promSB; split <;> rfl
    · rw [fup_ne e]
  exact {
    vok := fun k => by
      by_cases e : k = w
      · subst e; rw [fup_same]; exact okV_promSB (h.vok k)
      · rw [fup_ne e]; exact h.vok k
    hpr := fun k s b x hm => Int.le_trans (h.hpr k s b x hm) (hmono k)
    hxs := fun k s b x hm => by rw [hxs]; exact h.hxs k s b x hm
    xsH := fun k y hy => by rw [hxs] at hy; exact h.xsH k y hy
    one := h.one
    safe := fun k s b x hm => (h.safe k s b x hm).mono hmono
    hb := h.hb
    vn := h.vn
    pn := h.pn
    pk := fun b k hk => ⟨(h.pk b k hk).1, Int.le_trans (h.pk b k hk).2 (hmono k)⟩
    told := h.told
    tn := h.tn
    tk := h.tk }
end Go.Proofs.Ytakjmdeckngnlaa
