/- Leaders: what follows of their state's law, for the statements. -/
import Derived.Test.YtakjmdeckngnlaaLead
set_option linter.unusedVariables false
set_option linter.unusedSimpArgs false
namespace Go.Proofs.Ytakjmdeckngnlaa
open Go.RowKit
/-- A leader of one voter that has promised, at a place. -/
abbrev LF (i : Int) (off : List Int) : LdS Int := ⟨1, 1, i, [(0, 1)], [], off, []⟩
theorem full_first {f x : Int} : (ldNew Int 1 1 f).offer 0 x = (false, ldNew Int 1 1 f) := rfl
theorem full_promised {f : Int} : (ldNew Int 1 1 f).promised ⟨0, 0, 0⟩ 0 [] = LF f [] := rfl
theorem full_leads {i : Int} {off : List Int} : (LF i off).leads = true := rfl
theorem full_offer {i x : Int} (h : i < 64) : (LF i []).offer 0 x = (true, LF i [x]) := by
  simp [LdS.offer, LdS.value, mget, mat, full_leads, show ¬ (64 : Int) ≤ i by omega]
theorem full_again {i x y : Int} (h : i < 64) : (LF i [x]).offer 0 y = (false, LF i [x]) := by
  simp [LdS.offer, LdS.value, mget, mat, full_leads, show ¬ (64 : Int) ≤ i by omega]
theorem full_inc : enoughB 1 (inc [] 0) = true := rfl
theorem full_taken {i x : Int} (h : i < 64) : (LF i [x]).taken 0 0 i = ((x, true), LF (i + 1) []) := by
  simp [LdS.taken, LdS.value, LdS.voter, mget, mat, full_leads, full_inc, show ¬ (64 : Int) ≤ i by omega]
theorem full_value : (LF 64 []).value 0 = (0, false) := rfl
theorem full_end {n : Int} : (LF 64 []).taken 0 0 n = ((0, false), LF 64 []) := rfl
theorem full_endOffer {x : Int} : (LF 64 []).offer 0 x = (false, LF 64 []) := rfl
/-- So many keys: 0, 1, .. -/
structure TKey (D : List (Int × Int)) (i : Nat) : Prop where
  len : D.length = i
  has : ∀ j : Int, (mget D j).isSome = decide (0 ≤ j ∧ j < i)
theorem tkey_nil : TKey [] 0 := ⟨rfl, fun j => by simp [mget, mat] <;> omega⟩
theorem tkey_new {D : List (Int × Int)} {i : Nat} (h : TKey D i) : TKey (inc D i) (i + 1) := by
  have h1 := h.has i
  have h2 : mget D (i : Int) = none := by
    rw [decide_eq_false (by omega)] at h1
    simpa using h1
  refine ⟨by rw [inc, mset_length, if_pos h2, h.len], fun j => ?_⟩
  rw [inc, mget_set]
  by_cases e : (i : Int) = j
  · rw [if_pos e]; subst e; simp; omega
  · rw [if_neg e, h.has j]; congr 1; apply propext; omega
theorem tkey_old {D : List (Int × Int)} {i : Nat} (h : TKey D i) {j : Int} (h0 : 0 ≤ j) (h1 : j < i) : TKey (inc D j) i := by
  have h2 := h.has j
  rw [decide_eq_true ⟨h0, h1⟩] at h2
  have h3 : mget D j ≠ none := by intro h4; rw [h4] at h2; cases h2
  refine ⟨by rw [inc, mset_length, if_neg h3, h.len], fun k => ?_⟩
  rw [inc, mget_set]
  by_cases e : j = k
  · rw [if_pos e]; subst e; simp; omega
  · rw [if_neg e]; exact h.has k
/-- All promised by number 0 .. have counted once. -/
structure PKey (D : List (Int × Int)) (i : Nat) : Prop extends TKey D i where
  one : ∀ j x, mget D j = some x → x = 1
theorem pkey_nil : PKey [] 0 := ⟨tkey_nil, fun j x h => by simp [mget, mat] at h⟩
theorem pkey_new {D : List (Int × Int)} {i : Nat} (h : PKey D i) : PKey (inc D i) (i + 1) := by
  refine ⟨tkey_new h.toTKey, fun j x hx => ?_⟩
  have h1 := h.has i
  have h2 : mget D (i : Int) = none := by
    rw [decide_eq_false (by omega)] at h1
    simpa using h1
  rw [inc, mget_set] at hx
  split at hx
  · rw [h2] at hx
    simp [IntKind.wrap, IntKind.signed, IntKind.bits] at hx
    omega
  · exact h.one j x hx
abbrev LO (n : Nat) (sl : Int) (D : List (Int × Int)) (off : List Int) (tak : List (Int × Int)) : LdS Int := ⟨1, n, sl, D, [], off, tak⟩
theorem enough_n {n : Nat} (hn : n ≤ 9) (D : List (Int × Int)) : enoughB (n : Int) D = decide (n / 2 < D.length) := by
  unfold enoughB
  have h1 : ((n : Int).tdiv 2) = ((n / 2 : Nat) : Int) := by rw [Int.tdiv_eq_ediv_of_nonneg (by omega)]; omega
  rw [h1]
  have h2 : IntKind.i64.wrap ((n / 2 : Nat) : Int) = ((n / 2 : Nat) : Int) := by
    simp [IntKind.wrap, IntKind.signed, IntKind.bits]; omega
  rw [h2]
  congr 1
  apply propext
  omega
theorem once_leads {n i : Nat} (hn : n ≤ 9) {D : List (Int × Int)} (h : PKey D i) {sl : Int} {off : List Int} {tak : List (Int × Int)} : (LO n sl D off tak).leads = decide (n / 2 < i) := by
  unfold LdS.leads; rw [enough_n hn, h.len]
theorem once_promised {n i : Nat} (hn : n ≤ 9) (hi : i ≤ n / 2) {D : List (Int × Int)} (h : PKey D i) (h2 : 2 ≤ n) : (LO n 0 D [] []).promised ⟨0, 0, 0⟩ i [] = LO n 0 (inc D i) [] [] := by
  unfold LdS.promised
  rw [once_leads hn h]
  have h1 := h.has i
  have h3 : mget D (i : Int) = none := by
    rw [decide_eq_false (by omega)] at h1
    simpa using h1
  simp [LdS.voter, h3, show ¬ n / 2 < i by omega]
  omega
theorem once_again {n i : Nat} (hn : n ≤ 9) {D : List (Int × Int)} (h : PKey D (i + 1)) : (LO n 0 D [] []).promised ⟨0, 0, 0⟩ i [] = LO n 0 D [] [] := by
  unfold LdS.promised
  have h1 := h.has i
  rw [decide_eq_true (by omega)] at h1
  obtain ⟨x, hx⟩ := Option.isSome_iff_exists.1 h1
  have := h.one _ _ hx
  subst this
  simp [hx]
theorem once_value {n i : Nat} (hn : n ≤ 9) {D : List (Int × Int)} (h : PKey D i) (hi : n / 2 < i) {x : Int} {tak : List (Int × Int)} : (LO n 0 D [x] tak).value 0 = (x, true) := by
  unfold LdS.value; rw [once_leads hn h]; simp [mget, mat, hi]
theorem once_none {n i : Nat} (hn : n ≤ 9) {D : List (Int × Int)} (h : PKey D i) {tak : List (Int × Int)} {sl : Int} : ((LO n sl D [] tak).value 0).2 = false := by
  unfold LdS.value; split
  · rfl
  · simp [mget, mat]
theorem once_offer {n i : Nat} (hn : n ≤ 9) {D : List (Int × Int)} (h : PKey D i) (hi : n / 2 < i) : (LO n 0 D [] []).offer 0 7 = (true, LO n 0 D [7] []) := by
  unfold LdS.offer; rw [once_none hn h, once_leads hn h]; simp [hi]
theorem once_taken {n k i : Nat} (hn : n ≤ 9) {D : List (Int × Int)} (h : PKey D k) (hk : n / 2 < k) {tak : List (Int × Int)} (hi : (i : Int) < n) :
    (LO n 0 D [7] tak).taken 0 i 0 = if n / 2 < (inc tak i).length then ((7, true), LO n 1 D [] []) else ((0, false), LO n 0 D [7] (inc tak i)) := by
  unfold LdS.taken
  rw [once_value hn h hk]
  have hv : (LO n 0 D [7] tak).voter i = true := by simp [LdS.voter]; omega
  rw [hv, enough_n hn]
  by_cases e : n / 2 < (inc tak i).length <;> simp [e]
theorem once_over {n k : Nat} (hn : n ≤ 9) {D : List (Int × Int)} (h : PKey D k) {i sl s2 : Int} {tak : List (Int × Int)} : (LO n sl D [] tak).taken 0 i s2 = ((0, false), LO n sl D [] tak) := by
  unfold LdS.taken; rw [once_none hn h]; rfl
/-- Voter m has said t times that it has taken the value. -/
def OIn (n m t : Nat) (tak : List (Int × Int)) (off : List Int) (sl : Int) : Prop :=
  m ≤ n / 2 ∧ if t = 0 then TKey tak m ∧ off = [7] ∧ sl = 0 else if m = n / 2 then tak = [] ∧ off = [] ∧ sl = 1 else TKey tak (m + 1) ∧ off = [7] ∧ sl = 0
theorem oin_start {n m : Nat} {tak : List (Int × Int)} {off : List Int} {sl : Int} (hm : m < n / 2 + 1) (h : (m ≤ n / 2 ∧ TKey tak m ∧ off = [7] ∧ sl = 0) ∨ (m = n / 2 + 1 ∧ tak = [] ∧ off = [] ∧ sl = 1)) : OIn n m 0 tak off sl := by
  rcases h with h | h
  · exact ⟨h.1, by rw [if_pos rfl]; exact h.2⟩
  · omega
theorem once_round {n m t : Nat} {tak : List (Int × Int)} {off : List Int} {sl : Int} (ht : 1 ≤ t) (h : OIn n m t tak off sl) : m + 1 ≤ n / 2 + 1 ∧ ((m + 1 ≤ n / 2 ∧ TKey tak (m + 1) ∧ off = [7] ∧ sl = 0) ∨ (m + 1 = n / 2 + 1 ∧ tak = [] ∧ off = [] ∧ sl = 1)) := by
  obtain ⟨h1, h2⟩ := h
  rw [if_neg (by omega)] at h2
  refine ⟨by omega, ?_⟩
  split at h2
  · exact .inr ⟨by omega, h2⟩
  · exact .inl ⟨by omega, h2⟩
theorem once_step {n m t k : Nat} {D tak : List (Int × Int)} {off : List Int} {sl : Int} (hn : n ≤ 9) (h2 : 2 ≤ n) (hD : PKey D k) (hk : n / 2 < k) (h : OIn n m t tak off sl) :
    ∃ tak' off' sl' v, (LO n sl D off tak).taken 0 m 0 = ((v, decide (m = n / 2 ∧ t = 0)), LO n sl' D off' tak') ∧ (decide (m = n / 2 ∧ t = 0) = true → v = 7) ∧ OIn n m (t + 1) tak' off' sl' := by
  obtain ⟨h1, h3⟩ := h
  have hlt : (m : Int) < n := by omega
  by_cases ht : t = 0
  · subst ht
    rw [if_pos rfl] at h3
    obtain ⟨hk1, rfl, rfl⟩ := h3
    have hl := (tkey_new hk1).len
    by_cases hm : m = n / 2
    · refine ⟨[], [], 1, 7, ?_, fun _ => rfl, h1, ?_⟩
      · rw [once_taken hn hD hk hlt, if_pos (by omega), decide_eq_true ⟨hm, rfl⟩]
      · rw [if_neg (by omega), if_pos hm]; exact ⟨rfl, rfl, rfl⟩
    · refine ⟨inc tak m, [7], 0, 0, ?_, ?_, h1, ?_⟩
      · rw [once_taken hn hD hk hlt, if_neg (by omega), decide_eq_false (by omega)]
      · intro h9; simp at h9; omega
      · rw [if_neg (by omega), if_neg hm]; exact ⟨tkey_new hk1, rfl, rfl⟩
  · rw [if_neg ht] at h3
    by_cases hm : m = n / 2
    · rw [if_pos hm] at h3
      obtain ⟨rfl, rfl, rfl⟩ := h3
      refine ⟨[], [], 1, 0, ?_, ?_, h1, ?_⟩
      · rw [once_over hn hD, decide_eq_false (by omega)]
      · intro h9; simp at h9; omega
      · rw [if_neg (by omega), if_pos hm]; exact ⟨rfl, rfl, rfl⟩
    · rw [if_neg hm] at h3
      obtain ⟨hk1, rfl, rfl⟩ := h3
      have hk2 := tkey_old hk1 (j := m) (by omega) (by omega)
      refine ⟨inc tak m, [7], 0, 0, ?_, ?_, h1, ?_⟩
      · rw [once_taken hn hD hk hlt, hk2.len, if_neg (by omega), decide_eq_false (by omega)]
      · intro h9; simp at h9; omega
      · rw [if_neg (by omega), if_neg hm]; exact ⟨hk2, rfl, rfl⟩
theorem neq_lit {a b : Bool} (h : a = b) : Value.bool (!(a == b)) = Value.bool false := by subst h; simp
end Go.Proofs.Ytakjmdeckngnlaa
