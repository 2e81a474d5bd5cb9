/- What a voter knows: plain (hand-written, for both kinds of values). -/
import Derived.Test.YtakjmdeckngnlaaBTy
set_option linter.unusedVariables false
set_option linter.unusedSimpArgs false
namespace Go.Proofs.Ytakjmdeckngnlaa
open Go.RowKit Classical
structure VSA where
  pr : Int
  xs : List ItA
structure OkVA (s : VSA) : Prop where
  srt : Srt ItA.f_key ilt s.xs
  bd : ∀ y ∈ s.xs, 0 ≤ y.f_key ∧ y.f_key < 64
  sl : ∀ y ∈ s.xs, y.f_value.Slot = y.f_key
  bl : ∀ y ∈ s.xs, y.f_value.Ballot ≤ s.pr
def accOkA (s : VSA) (v : (Vt ByteArray)) : Prop := s.pr ≤ v.Ballot ∧ 0 ≤ v.Slot ∧ v.Slot < 64
noncomputable def accSA (s : VSA) (v : (Vt ByteArray)) : VSA := if accOkA s v then ⟨v.Ballot, ins ItA.f_key ilt (⟨v.Slot, v⟩ : ItA) s.xs⟩ else s
noncomputable def promSA (s : VSA) (b : Int) : VSA := if s.pr ≤ b then ⟨b, s.xs⟩ else s
noncomputable def promLA (s : VSA) (b fr : Int) : List (Vt ByteArray) := if s.pr ≤ b then (sel ItA.f_key ilt (some fr) s.xs).map ItA.f_value else []
theorem okV_accA {s : VSA} {v : (Vt ByteArray)} (ok : OkVA s) (h1 : s.pr ≤ v.Ballot) (h2 : 0 ≤ v.Slot) (h3 : v.Slot < 64) : OkVA ⟨v.Ballot, ins ItA.f_key ilt (⟨v.Slot, v⟩ : ItA) s.xs⟩ where
  srt := srt_ins ilt_sto ok.srt
  bd y hy := by
    rcases mem_ins hy with rfl | hy
    · exact ⟨h2, h3⟩
    · exact ok.bd y hy
  sl y hy := by
    rcases mem_ins hy with rfl | hy
    · rfl
    · exact ok.sl y hy
  bl y hy := by
    rcases mem_ins hy with rfl | hy
    · exact Int.le_refl _
    · exact Int.le_trans (ok.bl y hy) h1
theorem okV_promA {s : VSA} {b : Int} (ok : OkVA s) (h : s.pr ≤ b) : OkVA ⟨b, s.xs⟩ := ⟨ok.srt, ok.bd, ok.sl, fun y hy => Int.le_trans (ok.bl y hy) h⟩
theorem okV_newA : OkVA ⟨0, []⟩ := ⟨List.Pairwise.nil, fun y hy => (by simp at hy), fun y hy => (by simp at hy), fun y hy => (by simp at hy)⟩
theorem srt_lenA : ∀ {xs : List ItA} {a : Int}, Srt ItA.f_key ilt xs → (∀ y ∈ xs, a ≤ y.f_key ∧ y.f_key < 64) → (xs.length : Int) ≤ max 0 (64 - a)
  | [], a, _, _ => by simp; omega
  | y :: ys, a, hs, hb => by
    have h' := List.pairwise_cons.1 hs
    have hy := hb y (by simp)
    have h1 := srt_lenA (xs := ys) (a := y.f_key + 1) h'.2 fun z hz => ⟨by have h2 : y.f_key < z.f_key := h'.1 z hz; omega, (hb z (by simp [hz])).2⟩
    rw [List.length_cons]
    push_cast
    omega
theorem okV_lenA {s : VSA} (ok : OkVA s) : s.xs.length ≤ 64 := by
  have := srt_lenA (a := 0) ok.srt ok.bd
  omega
theorem okV_accSA {s : VSA} {v : (Vt ByteArray)} (ok : OkVA s) : OkVA (accSA s v) := by
  unfold accSA
  split
  · rename_i h; exact okV_accA ok h.1 h.2.1 h.2.2
  · exact ok
theorem okV_promSA {s : VSA} {b : Int} (ok : OkVA s) : OkVA (promSA s b) := by
  unfold promSA
  split
  · rename_i h; exact okV_promA ok h
  · exact ok
theorem sel_headA {xs : List ItA} {y : ItA} (hs : Srt ItA.f_key ilt xs) (hy : y ∈ xs) : ∃ zs, sel ItA.f_key ilt (some y.f_key) xs = y :: zs := by
  obtain ⟨P, Z, rfl⟩ := List.append_of_mem hy
  have h1 := List.pairwise_append.1 hs
  have h2 := List.pairwise_cons.1 h1.2.1
  rw [sel_append, sel_lt (fun p hp => h1.2.2 p hp y (by simp)), sel_ge (fun z hz => ?_), List.nil_append]
  · exact ⟨Z, rfl⟩
  · rcases List.mem_cons.1 hz with rfl | hz
    · exact ilt_sto.irr _
    · exact fun h9 => ilt_sto.irr _ (ilt_sto.tr h9 (h2.1 z hz))
theorem mem_keepA {x y : ItA} (hne : y.f_key ≠ x.f_key) : ∀ {xs : List ItA}, y ∈ xs → y ∈ ins ItA.f_key ilt x xs
  | z :: zs, h => by
    rw [ins]
    split
    · exact List.mem_cons_of_mem _ h
    · rename_i h1
      split
      · rcases List.mem_cons.1 h with rfl | h
        · exact List.mem_cons_self
        · exact List.mem_cons_of_mem _ (mem_keepA hne h)
      · rename_i h2
        rcases List.mem_cons.1 h with rfl | h
        · exact absurd (ilt_sto.tri h2 h1) hne
        · exact List.mem_cons_of_mem _ h
theorem mem_newA {x : ItA} : ∀ {xs : List ItA}, x ∈ ins ItA.f_key ilt x xs
  | [] => by simp [ins]
  | z :: zs => by
    rw [ins]
    split
    · simp
    · split
      · exact List.mem_cons_of_mem _ mem_newA
      · simp
structure VSB where
  pr : Int
  xs : List ItB
structure OkVB (s : VSB) : Prop where
  srt : Srt ItB.f_key ilt s.xs
  bd : ∀ y ∈ s.xs, 0 ≤ y.f_key ∧ y.f_key < 64
  sl : ∀ y ∈ s.xs, y.f_value.Slot = y.f_key
  bl : ∀ y ∈ s.xs, y.f_value.Ballot ≤ s.pr
def accOkB (s : VSB) (v : (Vt Int)) : Prop := s.pr ≤ v.Ballot ∧ 0 ≤ v.Slot ∧ v.Slot < 64
noncomputable def accSB (s : VSB) (v : (Vt Int)) : VSB := if accOkB s v then ⟨v.Ballot, ins ItB.f_key ilt (⟨v.Slot, v⟩ : ItB) s.xs⟩ else s
noncomputable def promSB (s : VSB) (b : Int) : VSB := if s.pr ≤ b then ⟨b, s.xs⟩ else s
noncomputable def promLB (s : VSB) (b fr : Int) : List (Vt Int) := if s.pr ≤ b then (sel ItB.f_key ilt (some fr) s.xs).map ItB.f_value else []
theorem okV_accB {s : VSB} {v : (Vt Int)} (ok : OkVB s) (h1 : s.pr ≤ v.Ballot) (h2 : 0 ≤ v.Slot) (h3 : v.Slot < 64) : OkVB ⟨v.Ballot, ins ItB.f_key ilt (⟨v.Slot, v⟩ : ItB) s.xs⟩ where
  srt := srt_ins ilt_sto ok.srt
  bd y hy := by
    rcases mem_ins hy with rfl | hy
    · exact ⟨h2, h3⟩
    · exact ok.bd y hy
  sl y hy := by
    rcases mem_ins hy with rfl | hy
    · rfl
    · exact ok.sl y hy
  bl y hy := by
    rcases mem_ins hy with rfl | hy
    · exact Int.le_refl _
    · exact Int.le_trans (ok.bl y hy) h1
theorem okV_promB {s : VSB} {b : Int} (ok : OkVB s) (h : s.pr ≤ b) : OkVB ⟨b, s.xs⟩ := ⟨ok.srt, ok.bd, ok.sl, fun y hy => Int.le_trans (ok.bl y hy) h⟩
theorem okV_newB : OkVB ⟨0, []⟩ := ⟨List.Pairwise.nil, fun y hy => (by simp at hy), fun y hy => (by simp at hy), fun y hy => (by simp at hy)⟩
theorem srt_lenB : ∀ {xs : List ItB} {a : Int}, Srt ItB.f_key ilt xs → (∀ y ∈ xs, a ≤ y.f_key ∧ y.f_key < 64) → (xs.length : Int) ≤ max 0 (64 - a)
  | [], a, _, _ => by simp; omega
  | y :: ys, a, hs, hb => by
    have h' := List.pairwise_cons.1 hs
    have hy := hb y (by simp)
    have h1 := srt_lenB (xs := ys) (a := y.f_key + 1) h'.2 fun z hz => ⟨by have h2 : y.f_key < z.f_key := h'.1 z hz; omega, (hb z (by simp [hz])).2⟩
    rw [List.length_cons]
    push_cast
    omega
theorem okV_lenB {s : VSB} (ok : OkVB s) : s.xs.length ≤ 64 := by
  have := srt_lenB (a := 0) ok.srt ok.bd
  omega
theorem okV_accSB {s : VSB} {v : (Vt Int)} (ok : OkVB s) : OkVB (accSB s v) := by
  unfold accSB
  split
  · rename_i h; exact okV_accB ok h.1 h.2.1 h.2.2
  · exact ok
theorem okV_promSB {s : VSB} {b : Int} (ok : OkVB s) : OkVB (promSB s b) := by
  unfold promSB
  split
  · rename_i h; exact okV_promB ok h
  · exact ok
theorem sel_headB {xs : List ItB} {y : ItB} (hs : Srt ItB.f_key ilt xs) (hy : y ∈ xs) : ∃ zs, sel ItB.f_key ilt (some y.f_key) xs = y :: zs := by
  obtain ⟨P, Z, rfl⟩ := List.append_of_mem hy
  have h1 := List.pairwise_append.1 hs
  have h2 := List.pairwise_cons.1 h1.2.1
  rw [sel_append, sel_lt (fun p hp => h1.2.2 p hp y (by simp)), sel_ge (fun z hz => ?_), List.nil_append]
  · exact ⟨Z, rfl⟩
  · rcases List.mem_cons.1 hz with rfl | hz
    · exact ilt_sto.irr _
    · exact fun h9 => ilt_sto.irr _ (ilt_sto.tr h9 (h2.1 z hz))
theorem mem_keepB {x y : ItB} (hne : y.f_key ≠ x.f_key) : ∀ {xs : List ItB}, y ∈ xs → y ∈ ins ItB.f_key ilt x xs
  | z :: zs, h => by
    rw [ins]
    split
    · exact List.mem_cons_of_mem _ h
    · rename_i h1
      split
      · rcases List.mem_cons.1 h with rfl | h
        · exact List.mem_cons_self
        · exact List.mem_cons_of_mem _ (mem_keepB hne h)
      · rename_i h2
        rcases List.mem_cons.1 h with rfl | h
        · exact absurd (ilt_sto.tri h2 h1) hne
        · exact List.mem_cons_of_mem _ h
theorem mem_newB {x : ItB} : ∀ {xs : List ItB}, x ∈ ins ItB.f_key ilt x xs
  | [] => by simp [ins]
  | z :: zs => by
    rw [ins]
    split
    · simp
    · split
      · exact List.mem_cons_of_mem _ mem_newB
      · simp
end Go.Proofs.Ytakjmdeckngnlaa
