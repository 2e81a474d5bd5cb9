/- Transactions: what stays right when operations are left out, turned round, or reads become writes. -/
import Derived.Test.YtllclglbfdncnaaKeys
set_option linter.unusedVariables false
set_option linter.unusedSimpArgs false
namespace Go.Proofs.Ytllclglbfdncnaa
open Go.RowKit Classical
theorem chkN_iff {t : Txn} {r : Int} : chkN t r = 0 ↔ ChkOk t r := chkN_0
theorem chk_more {t : Txn} {r n : Int} (h : chkN t r = 0) (h1 : r ≤ n) (h2 : n ≤ 3) : chkN t n = 0 := by
  rw [chkN_0] at *
  obtain ⟨a, b, c, d⟩ := h
  refine ⟨by omega, h2, c, ?_⟩
  rcases d with d | ⟨d1, d2, d3, d4, d5, d6⟩
  · exact .inl d
  · exact .inr ⟨d1, d2, d3, d4, d5, by omega⟩
theorem chk_sub {t c : Txn} {r : Int} (hk : c.f_Kind = t.f_Kind) (ht : c.f_To = t.f_To) (hr : c.f_Reads.xs = t.f_Reads.xs) (hw : c.f_Writes.xs = t.f_Writes.xs) (hl : c.f_Ops.xs.length ≤ t.f_Ops.xs.length) (hm : ∀ o ∈ c.f_Ops.xs, o ∈ t.f_Ops.xs) (h : ChkOk t r) : ChkOk c r := by
  obtain ⟨a, b, d, e⟩ := h
  refine ⟨a, b, by unfold Declared at *; rw [hr, hw]; exact d, ?_⟩
  rcases e with ⟨e1, e2, e3, e4⟩ | ⟨e1, e2, e3, e4, e5, e6⟩
  · refine .inl ⟨by rw [hk]; exact e1, by rw [ht]; exact e2, by omega, ?_⟩
    rintro ⟨o, ho, hn⟩
    refine e4 ⟨o, hm o ho, fun h9 => hn ?_⟩
    unfold StepOk at *
    rw [hr, hw]; exact h9
  · exact .inr ⟨by rw [hk]; exact e1, by rw [hr]; exact e2, by omega, by rw [hw]; exact e4, by rw [ht]; exact e5, by rw [ht]; exact e6⟩
theorem chkN_sub {t c : Txn} {r : Int} (hk : c.f_Kind = t.f_Kind) (ht : c.f_To = t.f_To) (hr : c.f_Reads.xs = t.f_Reads.xs) (hw : c.f_Writes.xs = t.f_Writes.xs) (hl : c.f_Ops.xs.length ≤ t.f_Ops.xs.length) (hm : ∀ o ∈ c.f_Ops.xs, o ∈ t.f_Ops.xs) (h : chkN t r = 0) : chkN c r = 0 := by
  rw [chkN_0] at *; exact chk_sub hk ht hr hw hl hm h
theorem chkN_rev {t c : Txn} {r : Int} (hk : c.f_Kind = t.f_Kind) (ht : c.f_To = t.f_To) (hr : c.f_Reads.xs = t.f_Reads.xs) (hw : c.f_Writes.xs = t.f_Writes.xs) (ho : c.f_Ops.xs = t.f_Ops.xs.reverse) : chkN c r = chkN t r := by
  have h : ChkOk c r ↔ ChkOk t r := ⟨chk_sub hk.symm ht.symm hr.symm hw.symm (by rw [ho]; simp) (fun o h => by rw [ho]; simpa using h), chk_sub hk ht hr hw (by rw [ho]; simp) (fun o h => by rw [ho] at h; simpa using h)⟩
  unfold chkN
  by_cases hc : ChkOk t r
  · rw [if_pos hc, if_pos (h.2 hc)]
  · rw [if_neg hc, if_neg (fun h9 => hc (h.1 h9))]
theorem rises_srt {xs : List ByteArray} (h : Rises xs xs.length) : Srt id strlt xs := by
  unfold Srt
  induction xs with
  | nil => exact List.Pairwise.nil
  | cons x xs ih =>
    have h' : Rises xs xs.length := fun j a b hj ha hb => h (j + 1) a b (by simp; omega) (by simpa using ha) (by simpa using hb)
    have ih := ih h'
    refine List.pairwise_cons.2 ⟨?_, ih⟩
    cases xs with
    | nil => intro y hy; cases hy
    | cons z zs =>
      have hz : strlt x z := h 0 x z (by simp) rfl rfl
      intro y hy
      rcases List.mem_cons.1 hy with rfl | hy
      · exact hz
      · exact strlt_sto.tr hz ((List.pairwise_cons.1 ih).1 y hy)
theorem srt_rises {xs : List ByteArray} (h : Srt id strlt xs) : Rises xs xs.length := fun j x y hj hx hy => by
  obtain ⟨h1, rfl⟩ := List.getElem?_eq_some_iff.1 hx
  obtain ⟨h2, rfl⟩ := List.getElem?_eq_some_iff.1 hy
  exact List.pairwise_iff_getElem.1 h j (j + 1) h1 h2 (by omega)
theorem decl_nodup {t : Txn} (h : Declared t) : (t.f_Reads.xs ++ t.f_Writes.xs).Nodup := by
  obtain ⟨_, _, h3, h4, h5⟩ := h
  refine List.nodup_append.2 ⟨srt_nodup strlt_sto (rises_srt h3.2), srt_nodup strlt_sto (rises_srt h4.2), fun a ha b hb e => ?_⟩
  subst e; exact h5 ⟨a, ha, hb⟩
theorem keys_count {t : Txn} {r : Int} (h : chkN t r = 0) : (keysT t).length = t.f_Reads.xs.length + t.f_Writes.xs.length := by
  rw [chkN_0] at h
  unfold keysT
  rw [(nodup_setOf strlt_sto (decl_nodup h.2.2.1)).length_eq, List.length_append]
theorem keysT_wide {t : Txn} {k to : Int} {a b : Option Addr} {c d : Nat} {ops : Sl Op} : keysT ⟨k, ⟨a, [], c⟩, ⟨b, keysT t, d⟩, ops, to⟩ = keysT t := by
  show setOf strlt ([] ++ keysT t) = keysT t
  exact setOf_self strlt_sto (setOf_srt strlt_sto _)
theorem chkN_wide {t c : Txn} {a b : Option Addr} {m d : Nat} {ops : Sl Op} {k to : Int} (hs : SameT c t) (hk : k = c.f_Kind) (hto : to = c.f_To) (ho : ops.xs = c.f_Ops.xs) (h1 : t.f_Kind = 1) (h : chkN t 3 = 0) : chkN ⟨k, ⟨a, [], m⟩, ⟨b, keysT t, d⟩, ops, to⟩ 3 = 0 := by
  rw [← chkN_same hs, chkN_0] at h
  rw [chkN_0]
  have hkl := keysT_len t
  obtain ⟨_, _, ⟨d1, d2, d3, d4, d5⟩, e⟩ := h
  have hmem : ∀ x, x ∈ keysT t ↔ x ∈ c.f_Reads.xs ∨ x ∈ c.f_Writes.xs := fun x => by
    unfold keysT
    rw [setOf_mem strlt_sto, List.mem_append, hs.2.2.1, hs.2.2.2.1]
  have hcount : (keysT t).length ≤ 8 := by rw [← hs.2.2.1, ← hs.2.2.2.1] at hkl; omega
  refine ⟨by omega, by omega, ⟨by simp, by simpa using hcount, ⟨fun j x hj => absurd hj (by simp), fun j x y hj => absurd hj (by simp)⟩, ⟨?_, srt_rises (setOf_srt strlt_sto _)⟩, by simp⟩, ?_⟩
  · intro j x hj hx
    have hxm := (hmem x).1 (List.mem_of_getElem? hx)
    rcases hxm with hm | hm
    · obtain ⟨i, hi, rfl⟩ := List.mem_iff_getElem.1 hm
      exact d3.1 i _ hi (List.getElem?_eq_getElem hi)
    · obtain ⟨i, hi, rfl⟩ := List.mem_iff_getElem.1 hm
      exact d4.1 i _ hi (List.getElem?_eq_getElem hi)
  · rcases e with ⟨e1, e2, e3, e4⟩ | ⟨e1, _⟩
    · refine .inl ⟨hk.trans e1, hto.trans e2, by rw [ho]; exact e3, ?_⟩
      rintro ⟨o, hom, hn⟩
      rw [ho] at hom
      refine e4 ⟨o, hom, fun h9 => hn ?_⟩
      unfold StepOk at *
      obtain ⟨f1, f2, f3⟩ := h9
      refine ⟨f1, f2, ?_⟩
      have hw : ∀ {x}, x ∈ c.f_Writes.xs → x ∈ keysT t := fun h => (hmem _).2 (.inr h)
      have hr : ∀ {x}, x ∈ c.f_Writes.xs ∨ x ∈ c.f_Reads.xs → x ∈ keysT t := fun h => (hmem _).2 h.symm
      rcases f3 with ⟨g1, g2⟩ | ⟨g1, g2, g3⟩ | ⟨g1, g2⟩ | ⟨g1, g2, g3⟩ | g
      · exact .inl ⟨g1, hw g2⟩
      · exact .inr (.inl ⟨g1, hw g2, g3⟩)
      · exact .inr (.inr (.inl ⟨g1, .inl (hr g2)⟩))
      · exact .inr (.inr (.inr (.inl ⟨g1, .inl (hr g2), g3⟩)))
      · exact .inr (.inr (.inr (.inr g)))
    · rw [hs.1, h1] at e1; omega
theorem sub_mem' {α : Type} {xs : List α} {l h : Nat} {x : α} (hx : x ∈ sub xs l h) : x ∈ xs := by
  unfold sub at hx
  first | exact List.mem_of_mem_take (List.mem_of_mem_drop hx) | exact List.mem_of_mem_drop (List.mem_of_mem_take hx)
theorem rev_on {xs os : List Op} {i : Nat} {x : Op} {q : Int} (h : ∀ j, j < i → os[j]? = xs[xs.length - 1 - j]?) (hl : os.length = xs.length) (hi : i < xs.length) (hq : q = (xs.length : Int) - 1 - (i : Int)) (hx : xs[q.toNat]? = some x) : ∀ j, j < i + 1 → (os.set ((i : Int)).toNat x)[j]? = xs[xs.length - 1 - j]? := fun j hj => by
  show (os.set i x)[j]? = _
  rw [List.getElem?_set]
  by_cases hji : i = j
  · subst hji
    rw [if_pos rfl, if_pos (by omega), ← hx]
    congr 1; omega
  · rw [if_neg hji]; exact h j (by omega)
theorem rev_all {xs os : List Op} {i : Nat} (h : ∀ j, j < i → os[j]? = xs[xs.length - 1 - j]?) (hl : os.length = xs.length) (hi : xs.length ≤ i) : os = xs.reverse := by
  apply List.ext_getElem?
  intro j
  by_cases hj : j < xs.length
  · rw [h j (by omega), List.getElem?_reverse hj]
  · rw [List.getElem?_eq_none (by omega), List.getElem?_eq_none (by simp; omega)]
end Go.Proofs.Ytllclglbfdncnaa
