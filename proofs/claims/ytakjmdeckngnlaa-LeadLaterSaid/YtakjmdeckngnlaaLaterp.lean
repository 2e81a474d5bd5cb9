/- The law of LeadLater: the leaders' part, plain (hand-written). -/
import Derived.Test.YtakjmdeckngnlaaLaws
set_option linter.unusedVariables false
set_option linter.unusedSimpArgs false
namespace Go.Proofs.Ytakjmdeckngnlaa
open Go.RowKit
abbrev chN : ByteArray := ⟨#[99, 104, 111, 115, 101, 110]⟩
abbrev vCh : Vt ByteArray := ⟨0, 1, chN⟩
abbrev zVt : Vt ByteArray := ⟨0, 0, ByteArray.empty⟩
abbrev F1 (n : Nat) (D : List (Int × Int)) (off : List ByteArray) (tak : List (Int × Int)) : LdS ByteArray := ⟨1, n, 0, D, [], off, tak⟩
/-- Keys below i. -/
def KLt (D : List (Int × Int)) (i : Nat) : Prop := ∀ j : Int, (mget D j).isSome = true → 0 ≤ j ∧ j < i
theorem klt_nil : KLt [] 0 := fun j h => by simp [mget, mat] at h
theorem KLt.none {D : List (Int × Int)} {i : Nat} (h : KLt D i) : mget D (i : Int) = none := by
  cases hm : mget D (i : Int) with
  | none => rfl
  | some x => have := h i (by rw [hm]; rfl); omega
theorem klt_inc {D : List (Int × Int)} {i : Nat} (h : KLt D i) : KLt (inc D i) (i + 1) := fun j hj => by
  rw [inc, mget_set] at hj
  split at hj
  · rename_i e; subst e; omega
  · have := h j hj; omega
theorem KLt.up {D : List (Int × Int)} {i : Nat} (h : KLt D i) : KLt D (i + 1) := fun j hj => by have := h j hj; omega
theorem klt_len {D : List (Int × Int)} {i : Nat} (h : KLt D i) : (inc D (i : Int)).length = D.length + 1 := by
  rw [inc, mset_length, if_pos h.none]
/-! ### The first leader -/
structure FirstOk (n i : Nat) (D : List (Int × Int)) : Prop where
  len : D.length = min i (n / 2 + 1)
  lt : KLt D i
theorem first_0 {n : Nat} : FirstOk n 0 [] := ⟨by simp, klt_nil⟩
theorem f1_leads {n : Nat} {D : List (Int × Int)} {off : List ByteArray} {tak : List (Int × Int)} (hn : n ≤ 9) : (F1 n D off tak).leads = decide (n / 2 < D.length) := by
  unfold LdS.leads; exact enough_n hn D
theorem first_step {n i : Nat} {D : List (Int × Int)} (hn : n ≤ 9) (hi : i < n) (h : FirstOk n i D) : ∃ D2, (F1 n D [] []).promised zVt i [] = F1 n D2 [] [] ∧ FirstOk n (i + 1) D2 := by
  have hl := h.len
  by_cases h1 : n / 2 < D.length
  · refine ⟨D, ?_, ⟨by omega, h.lt.up⟩⟩
    unfold LdS.promised
    rw [f1_leads hn, decide_eq_true h1]
    simp
  · refine ⟨inc D i, ?_, ⟨by rw [klt_len h.lt]; omega, klt_inc h.lt⟩⟩
    unfold LdS.promised
    rw [f1_leads hn, decide_eq_false h1]
    have hv : (F1 n D [] []).voter i = true := by simp [LdS.voter]; omega
    have hm : mget (F1 n D [] []).prom (i : Int) = none := h.lt.none
    rw [hv, hm]
    simp
theorem first_off {n : Nat} {D : List (Int × Int)} (hn : n ≤ 9) (h1 : 1 ≤ n) (h : FirstOk n n D) : (F1 n D [] []).offer ByteArray.empty chN = (true, F1 n D [chN] []) := by
  have hl := h.len
  have hd : (F1 n D [] []).leads = true := by rw [f1_leads hn, decide_eq_true_eq]; omega
  simp [LdS.offer, LdS.value, hd, mget, mat]
/-! ### It is taken -/
def stF (n : Nat) (D tak : List (Int × Int)) (done : Bool) : LdS ByteArray := if done then ⟨1, n, 1, D, [], [], []⟩ else F1 n D [chN] tak
structure TakOk (n i cnt : Nat) (tak : List (Int × Int)) (done : Bool) : Prop where
  dn : done = decide (n / 2 < cnt)
  len : done = false → tak.length = cnt
  lt : KLt tak i
theorem tak_0 {n : Nat} : TakOk n 0 0 [] false := ⟨by simp, fun _ => rfl, klt_nil⟩
theorem TakOk.up {n i cnt : Nat} {tak : List (Int × Int)} {done : Bool} (h : TakOk n i cnt tak done) : TakOk n (i + 1) cnt tak done := ⟨h.dn, h.len, h.lt.up⟩
theorem tak_step {n i cnt : Nat} {D tak : List (Int × Int)} {done : Bool} (hn : n ≤ 9) (hi : i < n) (hd : n / 2 < D.length) (h : TakOk n i cnt tak done) :
    ∃ tak2 ok x, (stF n D tak done).taken ByteArray.empty i 0 = ((x, ok), stF n D tak2 (done || ok)) ∧ TakOk n (i + 1) (cnt + 1) tak2 (done || ok) := by
  have hv : ∀ s : LdS ByteArray, s.voters = n → s.voter i = true := fun s hs => by simp [LdS.voter, hs]; omega
  cases done with
  | true =>
    have hc' : n / 2 < cnt := of_decide_eq_true h.dn.symm
    refine ⟨tak, false, ByteArray.empty, ?_, ⟨?_, fun h9 => (by cases h9), h.lt.up⟩⟩
    · show (⟨1, n, 1, D, [], [], []⟩ : LdS ByteArray).taken ByteArray.empty i 0 = _
      simp [LdS.taken, stF]
    · symm; simp; omega
  | false =>
    have hl := h.len rfl
    have hlead : (F1 n D [chN] tak).leads = true := by rw [f1_leads hn]; exact decide_eq_true hd
    have hval : (F1 n D [chN] tak).value ByteArray.empty = (chN, true) := by simp [LdS.value, hlead, mget, mat]
    have hinc := klt_len h.lt
    have hen : enoughB (F1 n D [chN] tak).voters (inc tak i) = decide (n / 2 < cnt + 1) := by
      rw [show (F1 n D [chN] tak).voters = (n : Int) from rfl, enough_n hn, hinc, hl]
    have hvi := hv (F1 n D [chN] tak) rfl
    by_cases h1 : n / 2 < cnt + 1
    · refine ⟨inc tak i, true, chN, ?_, ⟨by simp; omega, fun h9 => (by cases h9), klt_inc h.lt⟩⟩
      show (F1 n D [chN] tak).taken ByteArray.empty i 0 = _
      unfold LdS.taken
      rw [hen, decide_eq_true h1, hval, hvi]
      simp [stF]
    · refine ⟨inc tak i, false, ByteArray.empty, ?_, ⟨by symm; simp; omega, fun _ => by rw [hinc, hl], klt_inc h.lt⟩⟩
      show (F1 n D [chN] tak).taken ByteArray.empty i 0 = _
      unfold LdS.taken
      rw [hen, decide_eq_false h1, hval, hvi]
      simp [stF]
/-! ### The second leader -/
abbrev S2 (n : Nat) (D : List (Int × Int)) (told : List (Int × Vt ByteArray)) : LdS ByteArray := ⟨2, n, 0, D, told, [], []⟩
structure LatOk (T : List Bool) (i : Nat) (D : List (Int × Int)) (told : List (Int × Vt ByteArray)) : Prop where
  hist : told = [] ∨ told = [(0, vCh)]
  cnt : told = [] → D.length + (T.take i).count true ≤ i
  lt : KLt D i
theorem lat_0 {T : List Bool} : LatOk T 0 [] [] := ⟨.inl rfl, fun _ => by simp, klt_nil⟩
theorem count_up {T : List Bool} {i : Nat} (hi : i < T.length) : (T.take (i + 1)).count true ≤ (T.take i).count true + 1 := by
  rw [List.take_succ_eq_append_getElem hi, List.count_append]
  have h2 : [T[i]].count true ≤ 1 := by
    have := List.count_le_length (a := true) (l := [T[i]])
    simpa using this
  omega
theorem LatOk.up {T : List Bool} {i : Nat} {D : List (Int × Int)} {told : List (Int × Vt ByteArray)} (h : LatOk T i D told) (hi : i < T.length) : LatOk T (i + 1) D told :=
  ⟨h.hist, fun h9 => by have h1 := h.cnt h9; have h2 := count_up hi; omega, h.lt.up⟩
theorem lat_step {T : List Bool} {n i : Nat} {D : List (Int × Int)} {told : List (Int × Vt ByteArray)} {tb : Bool} (hn : n ≤ 9) (hi : i < n) (hT : T[i]? = some tb) (h : LatOk T i D told) :
    ∃ D2 told2, (S2 n D told).promised zVt i (if tb then [vCh] else []) = S2 n D2 told2 ∧ LatOk T (i + 1) D2 told2 := by
  obtain ⟨hiT, he⟩ := List.getElem?_eq_some_iff.1 hT
  have hl : (S2 n D told).leads = decide (n / 2 < D.length) := by unfold LdS.leads; exact enough_n hn D
  by_cases h1 : n / 2 < D.length
  · refine ⟨D, told, ?_, h.up hiT⟩
    unfold LdS.promised
    rw [hl, decide_eq_true h1]
    simp
  · have hv : (S2 n D told).voter i = true := by simp [LdS.voter]; omega
    have hm : mget (S2 n D told).prom (i : Int) = none := h.lt.none
    refine ⟨inc D i, (if tb then [vCh] else []).foldl (upd zVt) told, ?_, ?_⟩
    · unfold LdS.promised
      rw [hl, decide_eq_false h1, hv, hm]
      simp
    · cases tb with
      | true =>
        have ht : ([vCh]).foldl (upd zVt) told = [(0, vCh)] := by
          rcases h.hist with rfl | rfl <;> simp [upd, mget, mat, mset]
        simp only [if_true] at ht ⊢
        rw [ht]
        exact ⟨.inr rfl, fun h9 => (by cases h9), klt_inc h.lt⟩
      | false =>
        show LatOk T (i + 1) (inc D i) told
        refine ⟨h.hist, fun h9 => ?_, klt_inc h.lt⟩
        have h2 := h.cnt h9
        rw [klt_len h.lt, List.take_succ_eq_append_getElem hiT, List.count_append, he]
        simp
        omega
theorem later_leads {n : Nat} {D : List (Int × Int)} {told : List (Int × Vt ByteArray)} (hn : n ≤ 9) : (S2 n D told).leads = decide (n / 2 < D.length) := by
  unfold LdS.leads; exact enough_n hn D
theorem later_end {T : List Bool} {n cnt : Nat} {D : List (Int × Int)} {told : List (Int × Vt ByteArray)} (hn : n ≤ 9) (hT : T.length = n) (h : LatOk T n D told) (hc : cnt = T.count true) (h1 : n / 2 < cnt) (h2 : n / 2 < D.length) :
    (S2 n D told).value ByteArray.empty = (chN, true) ∧ ∀ x, ((S2 n D told).offer ByteArray.empty x).1 = false := by
  have hne : told ≠ [] := fun h9 => by
    have h3 := h.cnt h9
    rw [List.take_of_length_le (by omega)] at h3
    omega
  have ht : told = [(0, vCh)] := h.hist.resolve_left hne
  have hl : (S2 n D told).leads = true := by rw [later_leads hn]; exact decide_eq_true h2
  have hv : (S2 n D told).value ByteArray.empty = (chN, true) := by
    subst ht
    simp [LdS.value, hl, mget, mat]
  exact ⟨hv, fun x => by simp [LdS.offer, hv]⟩
end Go.Proofs.Ytakjmdeckngnlaa
