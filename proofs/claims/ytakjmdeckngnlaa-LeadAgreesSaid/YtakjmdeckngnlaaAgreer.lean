/- The law of LeadAgrees: promises, votes, what is taken (plain, hand-written). -/
import Derived.Test.YtakjmdeckngnlaaAgreeq
set_option linter.unusedVariables false
set_option linter.unusedSimpArgs false
namespace Go.Proofs.Ytakjmdeckngnlaa
open Go.RowKit Classical
theorem key_inc {D : List (Int × Int)} {k j : Int} (h : j ∈ keys (inc D k)) : j = k ∨ j ∈ keys D := keys_inc.1 h
/-- A leader is told what a voter that promised has taken. -/
theorem Ag.hear {n : Nat} {V : Int → VSB} {Lf : Int → LdS Int} {H : Hist} (h : Ag n V Lf H) {b w : Int} {z : Vt Int} (hw : 0 ≤ w ∧ w < n) (hp : (V w).pr = b + 1) : Ag n V (fup Lf b ((Lf b).promised z w ((V w).xs.map ItB.f_value))) H := by
  unfold LdS.promised
  split
  · rw [fup_id]; exact h
  · rename_i hc
    simp only [Bool.or_eq_true, not_or, Bool.not_eq_true] at hc
    have hl : (Lf b).leads = false := hc.1.1
    have hno : ∀ w' s x, (w', s, b + 1, x) ∉ H := fun w' s x hm => by
      have h1 := (h.hb w' s (b + 1) x hm).1
      rw [show b + 1 - 1 = b by omega, hl] at h1
      cases h1
    have ht := h.told b
    have hlt : ∀ y ∈ (V w).xs, y.f_value.Ballot < b + 1 := fun y hy => by
      have h1 := (h.vok w).bl y hy
      have h2 := h.xsH w y hy
      have h3 : y.f_value.Ballot ≠ b + 1 := fun e => hno w y.f_key y.f_value.Value (e ▸ h2)
      omega
    have hmem : ∀ v ∈ (V w).xs.map ItB.f_value, (w, v.Slot, v.Ballot, v.Value) ∈ H ∧ v.Ballot < b + 1 := fun v hv => by
      obtain ⟨y, hy, rfl⟩ := List.mem_map.1 hv
      have h1 := h.xsH w y hy
      rw [← (h.vok w).sl y hy] at h1
      exact ⟨h1, hlt y hy⟩
    have hget : ∀ s β' x', (w, s, β', x') ∈ H → ∃ u ∈ (V w).xs.map ItB.f_value, u.Slot = s ∧ β' ≤ u.Ballot := fun s β' x' hm => by
      obtain ⟨y, hy, hk, hle⟩ := h.hxs w s β' x' hm
      exact ⟨y.f_value, List.mem_map_of_mem hy, by rw [(h.vok w).sl y hy, hk], hle⟩
    refine h.lead b _ (fun w' s x hm => absurd hm (hno w' s x)) (h.vn b) (nodup_inc (h.pn b)) (fun k hk => ?_) ⟨fun s hs k hk β' x' hm => ?_, fun s v hs => ?_, fun s v hs => ?_, fun s v hs k hk β' x' hm hlt' => ?_⟩ (h.tn b) (h.tk b)
    · rcases key_inc hk with rfl | hk
      · exact ⟨hw, by omega⟩
      · exact h.pk b k hk
    · rcases key_inc hk with rfl | hk
      · obtain ⟨u, hu, he, _⟩ := hget s β' x' hm
        obtain ⟨v, h2, _⟩ := fold_c (z := z) _ (Lf b).told u hu
        rw [he] at h2
        have h3 : mget (((V k).xs.map ItB.f_value).foldl (upd z) (Lf b).told) s = none := hs
        rw [h3] at h2
        cases h2
      · refine ht.no s ?_ k hk β' x' hm
        cases hm2 : mget (Lf b).told s with
        | none => rfl
        | some v0 =>
          obtain ⟨v, h2, _⟩ := fold_b (z := z) ((V w).xs.map ItB.f_value) (Lf b).told s v0 hm2
          have h3 : mget (((V w).xs.map ItB.f_value).foldl (upd z) (Lf b).told) s = none := hs
          rw [h3] at h2
          cases h2
    · rcases fold_a _ _ _ _ hs with h1 | ⟨h1, _⟩
      · exact ht.lt s v h1
      · exact (hmem v h1).2
    · rcases fold_a _ _ _ _ hs with h1 | ⟨h1, h2⟩
      · exact ht.src s v h1
      · exact ⟨w, by have h3 := (hmem v h1).1; rw [h2] at h3; exact h3⟩
    · have hs' : mget (((V w).xs.map ItB.f_value).foldl (upd z) (Lf b).told) s = some v := hs
      rcases key_inc hk with rfl | hk
      · obtain ⟨u, hu, he, hle⟩ := hget s β' x' hm
        obtain ⟨v2, h2, h4⟩ := fold_c (z := z) _ (Lf b).told u hu
        rw [he, hs'] at h2
        cases h2
        omega
      · cases hm2 : mget (Lf b).told s with
        | none => exact absurd hlt' (ht.no s hm2 k hk β' x' hm)
        | some v0 =>
          obtain ⟨v2, h2, h4⟩ := fold_b (z := z) ((V w).xs.map ItB.f_value) (Lf b).told s v0 hm2
          rw [hs'] at h2
          cases h2
          exact Int.le_trans (ht.top s v0 hm2 k hk β' x' hm hlt') h4
theorem value_cases {l : LdS Int} {x : Int} (h : l.value 0 = (x, true)) : l.leads = true ∧ l.slot < 64 ∧ (mget l.told l.slot = none ∨ ∃ v, mget l.told l.slot = some v ∧ v.Value = x) := by
  have h1 := value_slot (z := (0 : Int)) (s := l) (by rw [h])
  refine ⟨h1.1, h1.2, ?_⟩
  unfold LdS.value at h
  split at h
  · cases h
  · cases hm : mget l.told l.slot with
    | none => exact .inl rfl
    | some v =>
      rw [hm] at h
      cases h
      exact .inr ⟨v, rfl, rfl⟩
theorem Ag.many {n : Nat} {V : Int → VSB} {Lf : Int → LdS Int} {H : Hist} (h : Ag n V Lf H) (hn : n ≤ 9) {b : Int} {D : List (Int × Int)} (he : enoughB (Lf b).voters D = true) : n < 2 * (keys D).length := by
  rw [h.vn b, enough_n hn, decide_eq_true_eq] at he
  rw [len_keys]
  omega
/-- A voter takes a leader's value. -/
theorem Ag.vote {n : Nat} {V : Int → VSB} {Lf : Int → LdS Int} {H : Hist} (h : Ag n V Lf H) (hn : n ≤ 9) {b w x : Int} (hpr : (V w).pr ≤ b + 1) (hs0 : 0 ≤ (Lf b).slot) (hv : (Lf b).value 0 = (x, true)) :
    Ag n (fup V w ⟨b + 1, ins ItB.f_key ilt (⟨(Lf b).slot, ⟨(Lf b).slot, b + 1, x⟩⟩ : ItB) (V w).xs⟩) Lf ((w, (Lf b).slot, b + 1, x) :: H) := by
  obtain ⟨hlead, hs1, hval⟩ := value_cases hv
  have hmono : ∀ k, (V k).pr ≤ (fup V w ⟨b + 1, ins ItB.f_key ilt (⟨(Lf b).slot, ⟨(Lf b).slot, b + 1, x⟩⟩ : ItB) (V w).xs⟩ k).pr := fun k => by
    by_cases e : k = w
    · subst e; rw [fup_same]; exact hpr
    · rw [fup_ne e]; exact Int.le_refl _
  have hone : ∀ w' y, (w', (Lf b).slot, b + 1, y) ∈ H → y = x := fun w' y hm => by
    have h1 := (h.hb w' _ (b + 1) y hm).2.2
    rw [show b + 1 - 1 = b by omega] at h1
    have h2 := h1 rfl
    rw [hv] at h2
    exact ((Prod.mk.inj h2).1).symm
  exact {
    vok := fun k => by
      by_cases e : k = w
      · subst e; rw [fup_same]; exact okV_accB (v := (⟨(Lf b).slot, b + 1, x⟩ : Vt Int)) (h.vok k) hpr hs0 hs1
      · rw [fup_ne e]; exact h.vok k
    hpr := fun k s β y hm => by
      rcases List.mem_cons.1 hm with e | hm
      · cases e; rw [fup_same]; exact Int.le_refl _
      · exact Int.le_trans (h.hpr k s β y hm) (hmono k)
    hxs := fun k s β y hm0 => by
      rcases List.mem_cons.1 hm0 with e | hm

      · cases e; rw [fup_same]; exact ⟨_, mem_newB, rfl, Int.le_refl _⟩
      · obtain ⟨u, hu, hk, hle⟩ := h.hxs k s β y hm
        have hle3 := h.hpr k s β y hm
        by_cases e : k = w
        · subst e
          have hle2 := Int.le_trans hle3 hpr
          rw [fup_same]
          by_cases es : s = (Lf b).slot
          · exact ⟨_, mem_newB, es.symm, hle2⟩
          · exact ⟨u, mem_keepB (by rw [hk]; exact es) hu, hk, hle⟩
        · rw [fup_ne e]; exact ⟨u, hu, hk, hle⟩
    xsH := fun k y hy => by
      by_cases e : k = w
      · subst e
        rw [fup_same] at hy
        rcases mem_ins hy with rfl | hy
        · exact List.mem_cons_self
        · exact List.mem_cons_of_mem _ (h.xsH k y hy)
      · rw [fup_ne e] at hy; exact List.mem_cons_of_mem _ (h.xsH k y hy)
    one := fun k k' s β y y' hm hm' => by
      rcases List.mem_cons.1 hm with e | hm <;> rcases List.mem_cons.1 hm' with e' | hm'
      · cases e; cases e'; rfl
      · cases e; exact (hone k' y' hm').symm
      · cases e'; exact hone k y hm
      · exact h.one k k' s β y y' hm hm'
    safe := fun k s β y hm => by
      rcases List.mem_cons.1 hm with e | hm
      · cases e
        have ht := h.told b
        refine ⟨keys (Lf b).prom, h.pn b, h.many hn hlead, fun q hq => ⟨(h.pk b q hq).1, Int.le_trans (h.pk b q hq).2 (hmono q)⟩, ?_⟩
        rcases hval with hno | ⟨v, hsv, rfl⟩
        · left
          intro q hq β' x' hm
          rcases List.mem_cons.1 hm with e | hm
          · cases e; omega
          · exact ht.no _ hno q hq β' x' hm
        · right
          obtain ⟨w0, hw0⟩ := ht.src _ v hsv
          refine ⟨v.Ballot, w0, ht.lt _ v hsv, List.mem_cons_of_mem _ hw0, fun q hq β' x' hm hlt => ?_⟩
          rcases List.mem_cons.1 hm with e | hm
          · cases e; omega
          · exact ht.top _ v hsv q hq β' x' hm hlt
      · exact ((h.safe k s β y hm).vote hpr).mono hmono
    hb := fun k s β y hm => by
      rcases List.mem_cons.1 hm with e | hm
      · cases e
        rw [show b + 1 - 1 = b by omega]
        exact ⟨hlead, Int.le_refl _, fun _ => hv⟩
      · exact h.hb k s β y hm
    vn := h.vn
    pn := h.pn
    pk := fun c k hk => ⟨(h.pk c k hk).1, Int.le_trans (h.pk c k hk).2 (hmono k)⟩
    told := fun c => by
      have ht := h.told c
      have hnew : ∀ k ∈ keys (Lf c).prom, k = w → ¬ b + 1 < c + 1 := fun k hk e => by
        have := (h.pk c k hk).2
        subst e
        omega
      refine ⟨fun s hs k hk β' x' hm => ?_, ht.lt, fun s v hs => ?_, fun s v hs k hk β' x' hm hlt => ?_⟩
      · rcases List.mem_cons.1 hm with e | hm
        · cases e; exact hnew _ hk rfl
        · exact ht.no s hs k hk β' x' hm
      · obtain ⟨w0, hw0⟩ := ht.src s v hs
        exact ⟨w0, List.mem_cons_of_mem _ hw0⟩
      · rcases List.mem_cons.1 hm with e | hm
        · cases e; exact absurd hlt (hnew _ hk rfl)
        · exact ht.top s v hs k hk β' x' hm hlt
    tn := h.tn
    tk := fun c k hk => by
      obtain ⟨h1, x', h2⟩ := h.tk c k hk
      exact ⟨h1, x', List.mem_cons_of_mem _ h2⟩ }
/-- It counts. -/
theorem Ag.take {n : Nat} {V : Int → VSB} {Lf : Int → LdS Int} {H : Hist} (h : Ag n V Lf H) (hn : n ≤ 9) {b w x : Int} (hw : 0 ≤ w ∧ w < n) (hm : (w, (Lf b).slot, b + 1, x) ∈ H) (hv : (Lf b).value 0 = (x, true)) :
    Ag n V (fup Lf b ((Lf b).taken 0 w (Lf b).slot).2) H ∧ (((Lf b).taken 0 w (Lf b).slot).1.2 = true → ((Lf b).taken 0 w (Lf b).slot).1.1 = x ∧ Chosen n H (Lf b).slot (b + 1) x) := by
  have hone : ∀ w' y, (w', (Lf b).slot, b + 1, y) ∈ H → y = x := fun w' y hm' => h.one w' w _ _ y x hm' hm
  have hk : ∀ k ∈ keys (inc (Lf b).tak w), (0 ≤ k ∧ k < n) ∧ (k, (Lf b).slot, b + 1, x) ∈ H := fun k hk => by
    rcases key_inc hk with rfl | hk
    · exact ⟨hw, hm⟩
    · obtain ⟨h1, y, h2⟩ := h.tk b k hk
      rw [hone k y h2] at h2
      exact ⟨h1, h2⟩
  have ht := h.told b
  unfold LdS.taken
  split
  · rw [fup_id]; exact ⟨h, fun h9 => by cases h9⟩
  · split
    · refine ⟨h.lead b _ (fun w' s y hm' => ?_) (h.vn b) (h.pn b) (h.pk b) ⟨ht.no, ht.lt, ht.src, ht.top⟩ (nodup_inc (h.tn b)) fun k hk' => ⟨(hk k hk').1, x, (hk k hk').2⟩, fun h9 => by cases h9⟩
      have h1 := h.hb w' s (b + 1) y hm'
      rw [show b + 1 - 1 = b by omega] at h1
      exact h1
    · rename_i he
      have he' : enoughB (Lf b).voters (inc (Lf b).tak w) = true := by simpa using he
      refine ⟨h.lead b _ (fun w' s y hm' => ?_) (h.vn b) (h.pn b) (h.pk b) ⟨ht.no, ht.lt, ht.src, ht.top⟩ (by simp [keys]) fun k hk' => by simp [keys] at hk', fun _ => ⟨by rw [hv], keys (inc (Lf b).tak w), nodup_inc (h.tn b), h.many hn he', hk⟩⟩
      have h1 := h.hb w' s (b + 1) y hm'
      rw [show b + 1 - 1 = b by omega] at h1
      refine ⟨h1.1, by show s ≤ (Lf b).slot + 1; omega, fun e => ?_⟩
      have h2 : s = (Lf b).slot + 1 := e
      omega
/-- At the start. -/
theorem ag_0 {n : Nat} : Ag n (fun _ => ⟨0, []⟩) (fun b => ldNew Int (b + 1) n 0) [] where
  vok _ := okV_newB
  hpr _ _ _ _ h := by cases h
  hxs _ _ _ _ h := by cases h
  xsH _ y h := by simp at h
  one _ _ _ _ _ _ h := by cases h
  safe _ _ _ _ h := by cases h
  hb _ _ _ _ h := by cases h
  vn _ := rfl
  pn _ := by simp [ldNew, keys]
  pk _ k h := by simp [ldNew, keys] at h
  told _ := ⟨fun _ _ _ _ _ _ h => (by cases h), fun s v h => (by simp [ldNew, mget_nil] at h), fun s v h => (by simp [ldNew, mget_nil] at h), fun s v h => (by simp [ldNew, mget_nil] at h)⟩
  tn _ := by simp [ldNew, keys]
  tk _ k h := by simp [ldNew, keys] at h
theorem Chosen.more {n : Nat} {H : Hist} {s β y : Int} {e : Int × Int × Int × Int} (h : Chosen n H s β y) : Chosen n (e :: H) s β y := by
  obtain ⟨Q, h1, h2, h3⟩ := h
  exact ⟨Q, h1, h2, fun w hw => ⟨(h3 w hw).1, List.mem_cons_of_mem _ (h3 w hw).2⟩⟩
end Go.Proofs.Ytakjmdeckngnlaa
