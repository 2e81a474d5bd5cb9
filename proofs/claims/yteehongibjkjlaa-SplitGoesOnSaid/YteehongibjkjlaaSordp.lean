/- The pieces of all regions, counted by place: the plain law. -/
import Derived.Test.YteehongibjkjlaaPcsp
set_option linter.unusedVariables false
set_option linter.unusedSimpArgs false
namespace Go.Proofs.Yteehongibjkjlaa
open Go.RowKit Classical
theorem ite_iff {α : Type} {p q : Prop} [Decidable p] [Decidable q] (h : p ↔ q) (a b : α) : (if p then a else b) = if q then a else b := by
  by_cases hp : p
  · rw [if_pos hp, if_pos (h.1 hp)]
  · rw [if_neg hp, if_neg (fun x => hp (h.2 x))]
noncomputable def nR (log : List Order) (i : Nat) : Nat → Nat
  | 0 => 0
  | r + 1 => nR log i r + if PcOk (r : Int) log i then 1 else 0
theorem nR_le (log : List Order) (i r : Nat) : nR log i r ≤ r := by
  induction r with
  | zero => simp [nR]
  | succ r ih => simp only [nR]; split <;> omega
/-- What is counted when regions 0..r-1 are done, and of region r the first k pieces. -/
structure CntK (log : List Order) (r k : Nat) (cs : List Int) : Prop where
  len : cs.length = log.length
  v : ∀ (i : Nat) c, cs[i]? = some c → c = (nR log i r : Int) + if (∃ k', k' < k ∧ (idx (r : Int) log log.length)[k']? = some i) then 1 else 0
theorem cnt_0 {log : List Order} {n : Nat} (h : n = log.length) : CntK log 0 0 (List.replicate n 0) := by
  refine ⟨by simp [h], fun i c hc => ?_⟩
  rw [if_neg (by rintro ⟨k', h1, _⟩; omega)]
  obtain ⟨_, rfl⟩ := by simpa [List.getElem?_replicate] using hc
  simp [nR]
theorem idx_inj {g : Int} {log : List Order} {n k k' i : Nat} (h : (idx g log n)[k]? = some i) (h' : (idx g log n)[k']? = some i) : k = k' := by
  obtain ⟨hk, e⟩ := List.getElem?_eq_some_iff.1 h
  obtain ⟨hk', e'⟩ := List.getElem?_eq_some_iff.1 h'
  have hs := List.pairwise_iff_getElem.1 (idx_srt g log n)
  rcases Nat.lt_trichotomy k k' with q | q | q
  · have := hs k k' hk hk' q; omega
  · exact q
  · have := hs k' k hk' hk q; omega
theorem cnt_le {log : List Order} {r k : Nat} {cs : List Int} (h : CntK log r k cs) {i : Nat} {c : Int} (hc : cs[i]? = some c) : 0 ≤ c ∧ c ≤ (r : Int) + 1 := by
  have h1 := h.v i c hc
  have h2 := nR_le log i r
  split at h1 <;> omega
theorem cnt_on {log : List Order} {r k : Nat} {cs : List Int} {j : Nat} {c : Int} (h : CntK log r k cs) (hj : (idx (r : Int) log log.length)[k]? = some j) (hc : cs[j]? = some c) : CntK log r (k + 1) (cs.set j (c + 1)) := by
  refine ⟨by rw [List.length_set]; exact h.len, fun i b hb => ?_⟩
  rw [List.getElem?_set] at hb
  by_cases e : j = i
  · subst e
    rw [if_pos rfl] at hb
    have h1 := h.v j c hc
    rw [if_neg (by rintro ⟨k', q, q'⟩; have := idx_inj hj q'; omega)] at h1
    rw [if_pos ⟨k, by omega, hj⟩]
    split at hb
    · cases hb; omega
    · cases hb
  · rw [if_neg e] at hb
    rw [h.v i b hb]
    congr 1
    refine ite_iff ⟨?_, ?_⟩ _ _
    · rintro ⟨k', q, q'⟩; exact ⟨k', by omega, q'⟩
    · rintro ⟨k', q, q'⟩
      rcases Nat.lt_succ_iff_lt_or_eq.1 q with q1 | q1
      · exact ⟨k', q1, q'⟩
      · subst q1; rw [hj] at q'; cases q'; exact absurd rfl e
theorem cnt_next {log : List Order} {r k : Nat} {cs : List Int} (h : CntK log r k cs) (hk : (idx (r : Int) log log.length).length ≤ k) : CntK log (r + 1) 0 cs := by
  refine ⟨h.len, fun i c hc => ?_⟩
  have hi : i < log.length := by rw [← h.len]; exact (List.getElem?_eq_some_iff.1 hc).1
  rw [h.v i c hc, if_neg (c := ∃ k', k' < 0 ∧ _) (by rintro ⟨k', q, _⟩; omega)]
  simp only [nR]
  have e : (∃ k', k' < k ∧ (idx (r : Int) log log.length)[k']? = some i) ↔ PcOk (r : Int) log i := by
    constructor
    · rintro ⟨k', _, q⟩; exact (mem_idx_.1 (List.mem_of_getElem? q)).2
    · intro hp
      obtain ⟨k', q, q'⟩ := List.mem_iff_getElem.1 (mem_idx_.2 ⟨hi, hp⟩ : i ∈ idx (r : Int) log log.length)
      exact ⟨k', by omega, by rw [List.getElem?_eq_getElem q, q']⟩
  by_cases hp : PcOk (r : Int) log i
  · rw [if_pos (e.2 hp), if_pos hp]; omega
  · rw [if_neg (fun q => hp (e.1 q)), if_neg hp]; omega
/-- The place told last lies before all that come. -/
def LastK (g : Int) (log : List Order) (k : Nat) (l : Int) : Prop := ∀ (k' j : Nat), k ≤ k' → (idx g log log.length)[k']? = some j → l < (j : Int)
theorem last_0 (g : Int) (log : List Order) : LastK g log 0 (-1) := fun k' j _ _ => by omega
theorem last_on {g : Int} {log : List Order} {k j : Nat} (hj : (idx g log log.length)[k]? = some j) : LastK g log (k + 1) (j : Int) := fun k' i hk hi => by
  obtain ⟨h, e⟩ := List.getElem?_eq_some_iff.1 hj
  obtain ⟨h', e'⟩ := List.getElem?_eq_some_iff.1 hi
  have := List.pairwise_iff_getElem.1 (idx_srt g log log.length) k k' h h' (by omega)
  omega
/-- What a piece of place k says. -/
theorem pc_k {g : Int} {log : List Order} {ps : List Item} {k : Nat} {x : Item} (h : PcsOf g log log.length ps) (hx : ps[((k : Int)).toNat]? = some x) : ∃ j o, (idx g log log.length)[k]? = some j ∧ j < log.length ∧ x.f_Index = (j : Int) ∧ log[j]? = some o ∧ SameO x.ord o ∧ g ∈ homes o := by
  obtain ⟨j, h1, ⟨_, h2, o, h3, h4⟩, h5, _, o', h6, h7⟩ := h.mem hx
  rw [h3] at h6; cases h6
  exact ⟨j, o, h1, h5, h2, h3, h4, h7⟩
/-- How many of the regions 0..n-1 are home to o. -/
noncomputable def hmN (o : Order) : Nat → Nat
  | 0 => 0
  | r + 1 => hmN o r + if (r : Int) ∈ homes o then 1 else 0
theorem hmN_le (o : Order) (r : Nat) : hmN o r ≤ r := by
  induction r with
  | zero => simp [hmN]
  | succ r ih => simp only [hmN]; split <;> omega
theorem nR_hm {log : List Order} {i : Nat} {o : Order} (hx : log[i]? = some o) (r : Nat) : nR log i r = if FirstG log i then hmN o r else 0 := by
  induction r with
  | zero => simp [nR, hmN]
  | succ r ih =>
    simp only [nR, hmN]
    rw [ih]
    by_cases h : FirstG log i
    · rw [if_pos h, if_pos h]
      congr 1
      refine ite_iff ⟨?_, fun q => ⟨h, o, hx, q⟩⟩ _ _
      rintro ⟨_, o', q, q'⟩
      rw [hx] at q; cases q; exact q'
    · rw [if_neg h, if_neg h, if_neg (fun q : PcOk (r : Int) log i => h q.1)]
/-- The tags of the orders that are not single. -/
def SeenT (pre : List Order) (D : List (Tag × Bool)) : Prop := ∀ t, (mget D t).getD false = true ↔ oruns pre t ≠ 0
theorem seenT_0 {log : List Order} : SeenT (log.take 0) [] := fun t => by simp [mget, mat, oruns]
section
variable {log : List Order} {i : Nat} {D : List (Tag × Bool)} {o : Order} {c : Int} {cs : List Int}
theorem tk_ono (hx : log[((i : Int)).toNat]? = some o) : log.take (i + 1) = log.take i ++ [o] := by
  have hx' : log[i]? = some o := hx
  rw [List.take_add_one, hx']; rfl
theorem seenT_no (h : SeenT (log.take i) D) (hx : log[((i : Int)).toNat]? = some o) (hn : ¬ FirstG log i) : SeenT (log.take (i + 1)) D := fun t => by
  rw [h, tk_ono hx, oruns_snoc]
  by_cases e : ¬ single o ∧ o.tag = t
  · rw [if_pos e]
    refine ⟨fun _ => by omega, fun _ h0 => hn ((firstG_iff hx).2 ⟨e.1, by rw [e.2]; exact h0⟩)⟩
  · rw [if_neg e]
theorem seenT_on (h : SeenT (log.take i) D) (hx : log[((i : Int)).toNat]? = some o) (hn : FirstG log i) : SeenT (log.take (i + 1)) (mset D o.tag true) := fun t => by
  rw [tk_ono hx, mget_set, oruns_snoc]
  by_cases e : o.tag = t
  · rw [if_pos e, if_pos ⟨((firstG_iff hx).1 hn).1, e⟩]; simp
  · rw [if_neg e, if_neg (fun h9 => e h9.2)]; exact h t
theorem seen_not (h : SeenT (log.take i) D) (hx : log[((i : Int)).toNat]? = some o) (hs : (mget D o.tag).getD false = true ∨ single o) : ¬ FirstG log i := fun h9 => by
  have h8 := (firstG_iff hx).1 h9
  rcases hs with q | q
  · exact (h _).1 q h8.2
  · exact h8.1 q
theorem seen_yes (h : SeenT (log.take i) D) (hx : log[((i : Int)).toNat]? = some o) (h1 : (mget D o.tag).getD false = false) (h2 : ¬ single o) : FirstG log i := by
  refine (firstG_iff hx).2 ⟨h2, Classical.byContradiction fun h9 => ?_⟩
  rw [(h _).2 h9] at h1; cases h1
theorem cnt_no (h : CntK log 3 0 cs) (hx : log[((i : Int)).toNat]? = some o) (hc : cs[((i : Int)).toNat]? = some c) (hn : ¬ FirstG log i) : c = 0 := by
  have h1 := h.v i c hc
  rw [if_neg (by rintro ⟨k', q, _⟩; omega), nR_hm (show log[i]? = some o from hx), if_neg hn] at h1
  simpa using h1
theorem cnt_yes (h : CntK log 3 0 cs) (hx : log[((i : Int)).toNat]? = some o) (hc : cs[((i : Int)).toNat]? = some c) (hn : FirstG log i) : c = (hmN o 3 : Int) := by
  have h1 := h.v i c hc
  rw [if_neg (by rintro ⟨k', q, _⟩; omega), nR_hm (show log[i]? = some o from hx), if_pos hn] at h1
  simpa using h1
end
end Go.Proofs.Yteehongibjkjlaa
