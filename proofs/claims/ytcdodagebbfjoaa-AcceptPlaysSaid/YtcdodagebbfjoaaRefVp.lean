/- The document's voter: plain (hand-written). -/
import Derived.Test.YtcdodagebbfjoaaVotep
set_option linter.unusedVariables false
set_option linter.unusedSimpArgs false
namespace Go.Proofs.Ytcdodagebbfjoaa
open Go.RowKit Classical
theorem mem_sel {α κ : Type} {key : α → κ} {lt : κ → κ → Prop} {k : κ} {xs : List α} {y : α} : y ∈ sel key lt (some k) xs ↔ y ∈ xs ∧ ¬ lt (key y) k := by
  simp only [sel, List.mem_filter, decide_eq_true_eq]
structure RvS where
  pr : Int
  tk : List Bool
  vt : List VoR
structure RvOk (r : RvS) : Prop where
  lt : r.tk.length = 64
  lv : r.vt.length = 64
def toVR (v : VoS) : VoR := ⟨v.f_Slot, v.f_Ballot, v.f_Value⟩
def rAccOk (r : RvS) (v : VoR) : Prop := r.pr ≤ v.f_Ballot ∧ 0 ≤ v.f_Slot ∧ v.f_Slot < 64
noncomputable def rAcc (r : RvS) (v : VoR) : RvS := if rAccOk r v then ⟨v.f_Ballot, r.tk.set v.f_Slot.toNat true, r.vt.set v.f_Slot.toNat v⟩ else r
noncomputable def rProm (r : RvS) (b : Int) : RvS := if r.pr ≤ b then ⟨b, r.tk, r.vt⟩ else r
noncomputable def refL (r : RvS) (fr : Int) : Nat → List VoR
  | 0 => []
  | n + 1 => refL r fr n ++ (if r.tk[n]? = some true ∧ fr ≤ (n : Int) then (r.vt[n]?).toList else [])
noncomputable def rPromL (r : RvS) (b fr : Int) : List VoR := if r.pr ≤ b then refL r fr 64 else []
structure Rel (s : VSA) (r : RvS) : Prop where
  pr : s.pr = r.pr
  tk : ∀ j : Nat, r.tk[j]? = some true ↔ ∃ y ∈ s.xs, y.f_key = (j : Int)
  vt : ∀ y ∈ s.xs, r.vt[y.f_key.toNat]? = some (toVR y.f_value)
theorem rel_0 : Rel (⟨0, []⟩ : VSA) (⟨0, List.replicate 64 false, List.replicate 64 ⟨0, 0, ByteArray.empty⟩⟩ : RvS) where
  pr := rfl
  tk j := by
    constructor
    · intro h
      have := List.eq_of_mem_replicate (List.mem_of_getElem? h)
      cases this
    · rintro ⟨y, hy, _⟩; simp at hy
  vt y hy := by simp at hy
theorem Rel.prom {s : VSA} {r : RvS} {b : Int} (h : Rel s r) : Rel (promSA s b) (rProm r b) := by
  unfold promSA rProm
  rw [h.pr]
  split
  · exact ⟨rfl, h.tk, h.vt⟩
  · exact h
theorem acc_same {s : VSA} {r : RvS} {v : VoS} (h : Rel s r) : accOkA s v ↔ rAccOk r (toVR v) := by
  unfold accOkA rAccOk toVR
  rw [h.pr]
theorem mem_old {x y : ItA} {xs : List ItA} (hs : Srt ItA.f_key ilt xs) (hy : y ∈ ins ItA.f_key ilt x xs) : y = x ∨ (y ∈ xs ∧ y.f_key ≠ x.f_key) := by
  by_cases he : y.f_key = x.f_key
  · left
    have hs2 := srt_ins ilt_sto (x := x) hs
    have hx : x ∈ ins ItA.f_key ilt x xs := mem_newA
    have hp := List.pairwise_iff_getElem.1 hs2
    obtain ⟨i, hi, rfl⟩ := List.mem_iff_getElem.1 hy
    obtain ⟨j, hj, hje⟩ := List.mem_iff_getElem.1 hx
    rcases Nat.lt_trichotomy i j with h1 | h1 | h1
    · have h2 : (ins ItA.f_key ilt x xs)[i].f_key < (ins ItA.f_key ilt x xs)[j].f_key := hp i j hi hj h1
      rw [hje] at h2; omega
    · subst h1; exact hje
    · have h2 : (ins ItA.f_key ilt x xs)[j].f_key < (ins ItA.f_key ilt x xs)[i].f_key := hp j i hj hi h1
      rw [hje] at h2; omega
  · right
    rcases mem_ins hy with rfl | h
    · exact absurd rfl he
    · exact ⟨h, he⟩
theorem rvOk_acc {r : RvS} {v : VoR} (h : RvOk r) : RvOk (⟨v.f_Ballot, r.tk.set v.f_Slot.toNat true, r.vt.set v.f_Slot.toNat v⟩ : RvS) := ⟨by rw [List.length_set]; exact h.lt, by rw [List.length_set]; exact h.lv⟩
theorem rvOk_rAcc {r : RvS} {v : VoR} (h : RvOk r) : RvOk (rAcc r v) := by
  unfold rAcc
  split
  · exact rvOk_acc h
  · exact h
theorem rvOk_rProm {r : RvS} {b : Int} (h : RvOk r) : RvOk (rProm r b) := by
  unfold rProm
  split
  · exact ⟨h.lt, h.lv⟩
  · exact h
theorem Rel.acc {s : VSA} {r : RvS} {v : VoS} (h : Rel s r) (ok : OkVA s) (rk : RvOk r) : Rel (accSA s v) (rAcc r (toVR v)) := by
  unfold accSA rAcc
  by_cases h1 : accOkA s v
  · rw [if_pos h1, if_pos ((acc_same h).1 h1)]
    obtain ⟨_, h2, h3⟩ := h1
    have hl := rk.lt
    have hl2 := rk.lv
    refine ⟨rfl, fun j => ?_, fun y hy => ?_⟩
    · show (r.tk.set v.f_Slot.toNat true)[j]? = some true ↔ ∃ y ∈ ins ItA.f_key ilt (⟨v.f_Slot, v⟩ : ItA) s.xs, y.f_key = (j : Int)
      rw [List.getElem?_set]
      by_cases hj : v.f_Slot.toNat = j
      · rw [if_pos hj, if_pos (by omega)]
        exact ⟨fun _ => ⟨⟨v.f_Slot, v⟩, mem_newA, by show v.f_Slot = (j : Int); omega⟩, fun _ => rfl⟩
      · rw [if_neg hj, h.tk j]
        constructor
        · rintro ⟨y, hy, he⟩
          exact ⟨y, mem_keepA (by show y.f_key ≠ v.f_Slot; omega) hy, he⟩
        · rintro ⟨y, hy, he⟩
          rcases mem_old ok.srt hy with rfl | ⟨hy, _⟩
          · exact absurd (show v.f_Slot = (j : Int) from he) (by omega)
          · exact ⟨y, hy, he⟩
    · show (r.vt.set v.f_Slot.toNat (toVR v))[y.f_key.toNat]? = some (toVR y.f_value)
      rw [List.getElem?_set]
      rcases mem_old ok.srt hy with rfl | ⟨hy, hne⟩
      · rw [if_pos rfl, if_pos (by show v.f_Slot.toNat < _; omega)]
      · have hb := ok.bd y hy
        rw [if_neg (by have : y.f_key ≠ v.f_Slot := hne; omega)]
        exact h.vt y hy
  · rw [if_neg h1, if_neg (fun h9 => h1 ((acc_same h).2 h9))]
    exact h
theorem filt_succ {n : Int} : ∀ {zs : List ItA}, Srt ItA.f_key ilt zs → zs.filter (fun y => decide (y.f_key < n + 1)) = zs.filter (fun y => decide (y.f_key < n)) ++ zs.filter (fun y => decide (y.f_key = n))
  | [], _ => rfl
  | z :: zs, h => by
    have h' := List.pairwise_cons.1 h
    have ih := filt_succ (n := n) h'.2
    rcases Int.lt_trichotomy z.f_key n with h1 | h1 | h1
    · rw [List.filter_cons_of_pos (by simp; omega), List.filter_cons_of_pos (by simp; omega), List.filter_cons_of_neg (by simp; omega), ih]; rfl
    · have h2 : zs.filter (fun y => decide (y.f_key < n)) = [] := List.filter_eq_nil_iff.2 fun y hy => by have h3 : z.f_key < y.f_key := h'.1 y hy; simp; omega
      rw [List.filter_cons_of_pos (by simp; omega), List.filter_cons_of_neg (by simp; omega), List.filter_cons_of_pos (by simp; omega), ih, h2]; rfl
    · rw [List.filter_cons_of_neg (by simp; omega), List.filter_cons_of_neg (by simp; omega), List.filter_cons_of_neg (by simp; omega), ih]
theorem filt_one {n : Int} {y : ItA} : ∀ {zs : List ItA}, Srt ItA.f_key ilt zs → y ∈ zs → y.f_key = n → zs.filter (fun y => decide (y.f_key = n)) = [y]
  | z :: zs, h, hy, he => by
    have h' := List.pairwise_cons.1 h
    rcases List.mem_cons.1 hy with rfl | hy
    · rw [List.filter_cons_of_pos (by simp; omega), List.filter_eq_nil_iff.2 fun x hx => by have h3 : y.f_key < x.f_key := h'.1 x hx; simp; omega]
    · have h3 : z.f_key < y.f_key := h'.1 y hy
      rw [List.filter_cons_of_neg (by simp; omega), filt_one h'.2 hy he]
theorem Rel.list {s : VSA} {r : RvS} {fr : Int} (h : Rel s r) (ok : OkVA s) (rk : RvOk r) : refL r fr 64 = ((sel ItA.f_key ilt (some fr) s.xs).map ItA.f_value).map toVR := by
  have hz : Srt ItA.f_key ilt (sel ItA.f_key ilt (some fr) s.xs) := List.Pairwise.filter _ ok.srt
  have hm : ∀ y, y ∈ sel ItA.f_key ilt (some fr) s.xs ↔ y ∈ s.xs ∧ ¬ y.f_key < fr := fun y => mem_sel
  generalize sel ItA.f_key ilt (some fr) s.xs = zs at hz hm
  have key : ∀ n : Nat, n ≤ 64 → refL r fr n = ((zs.filter (fun y => decide (y.f_key < (n : Int)))).map ItA.f_value).map toVR := by
    intro n
    induction n with
    | zero =>
      intro _
      rw [List.filter_eq_nil_iff.2 fun y hy => by have := ok.bd y ((hm y).1 hy).1; simp; omega]; rfl
    | succ n ih =>
      intro hn
      rw [refL, ih (by omega), show ((n + 1 : Nat) : Int) = (n : Int) + 1 by omega, filt_succ hz, List.map_append, List.map_append]
      congr 1
      split
      · rename_i h1
        obtain ⟨y, hy, he⟩ := (h.tk n).1 h1.1
        rw [filt_one hz ((hm y).2 ⟨hy, by omega⟩) he]
        have hv := h.vt y hy
        rw [he, show ((n : Int)).toNat = n from rfl] at hv
        rw [hv]; rfl
      · rename_i h1
        rw [List.filter_eq_nil_iff.2 fun y hy => ?_]
        · rfl
        · have h2 := (hm y).1 hy
          rw [decide_eq_true_eq]
          intro he
          exact h1 ⟨(h.tk n).2 ⟨y, h2.1, he⟩, by omega⟩
  rw [key 64 (Nat.le_refl _), List.filter_eq_self.2 fun y hy => by have := ok.bd y ((hm y).1 hy).1; simp; omega]
theorem Rel.promL {s : VSA} {r : RvS} {b fr : Int} (h : Rel s r) (ok : OkVA s) (rk : RvOk r) : rPromL r b fr = (promLA s b fr).map toVR := by
  unfold rPromL promLA
  rw [← h.pr]
  split
  · exact h.list ok rk
  · rfl
theorem sel_all {s : VSA} (ok : OkVA s) : sel ItA.f_key ilt (some 0) s.xs = s.xs := sel_ge fun y hy h9 => by
  have h1 := ok.bd y hy
  have h2 : y.f_key < 0 := h9
  omega
theorem promL_len {s : VSA} {b fr : Int} : (promLA s b fr).length ≤ s.xs.length := by
  unfold promLA
  split
  · rw [List.length_map]; exact List.length_filter_le _ _
  · simp
theorem refL_pr {r : RvS} {b fr : Int} : ∀ {n : Nat}, refL (⟨b, r.tk, r.vt⟩ : RvS) fr n = refL r fr n
  | 0 => rfl
  | n + 1 => by rw [refL, refL, refL_pr]
theorem refL_len (r : RvS) (fr : Int) : ∀ n, (refL r fr n).length ≤ n
  | 0 => Nat.le_refl _
  | n + 1 => by
    rw [refL, List.length_append]
    have := refL_len r fr n
    split
    · have h2 : (r.vt[n]?).toList.length ≤ 1 := by cases r.vt[n]? <;> simp
      omega
    · simp; omega
end Go.Proofs.Ytcdodagebbfjoaa
