/- The document's leader: its state's law; how it answers like the program's. -/
import Derived.Test.YtakjmdeckngnlaaLaws
set_option linter.unusedVariables false
set_option linter.unusedSimpArgs false
namespace Go.Proofs.Ytakjmdeckngnlaa
open Go.RowKit
structure RlS where
  V : Int
  S : Int
  pr : List Bool
  tk : List Bool
  told : List (Vt ByteArray)
  off : ByteArray
  has : Bool
abbrev z0V : Vt ByteArray := ⟨0, 0, ByteArray.empty⟩
def cnt (l : List Bool) : Nat := l.count true
def RlS.leads (r : RlS) : Bool := decide (r.V < 2 * (cnt r.pr : Int))
def bst (S : Int) (acc : Vt ByteArray × Bool) (x : Vt ByteArray) : Vt ByteArray × Bool := if decide (x.Slot = S) && (!acc.2 || decide (acc.1.Ballot < x.Ballot)) then (x, true) else acc
def RlS.best (r : RlS) : Vt ByteArray × Bool := r.told.foldl (bst r.S) (z0V, false)
def RlS.value (r : RlS) : ByteArray × Bool := if !r.leads || decide (63 < r.S) then (ByteArray.empty, false) else if r.best.2 then (r.best.1.Value, true) else (r.off, r.has)
def RlS.offer (r : RlS) (x : ByteArray) : Bool × RlS := if r.value.2 || !r.leads || decide (63 < r.S) then (false, r) else (true, { r with off := x, has := true })
def RlS.taken (r : RlS) (i s : Int) : (ByteArray × Bool) × RlS :=
  if !r.value.2 || !decide (s = r.S) || decide (i < 0) || decide (r.V ≤ i) then ((ByteArray.empty, false), r)
  else if 2 * (cnt (r.tk.set i.toNat true) : Int) ≤ r.V then ((ByteArray.empty, false), { r with tk := r.tk.set i.toNat true })
  else ((r.value.1, true), { r with S := r.S + 1, off := ByteArray.empty, has := false, tk := List.replicate 9 false })
def RlS.promised (r : RlS) (i : Int) (vs : List (Vt ByteArray)) : RlS :=
  if r.leads || decide (i < 0) || decide (r.V ≤ i) || (r.pr[i.toNat]?).getD false then r else { r with pr := r.pr.set i.toNat true, told := r.told ++ vs }
structure RlOk (r : RlS) : Prop where
  s0 : 0 ≤ r.S
  s1 : r.S ≤ 64
  v0 : 1 ≤ r.V
  v1 : r.V ≤ 9
  lp : r.pr.length = 9
  lt : r.tk.length = 9
def rlNew (v f : Int) : RlS := ⟨v, f, List.replicate 9 false, List.replicate 9 false, [], ByteArray.empty, false⟩
theorem cnt_take {l : List Bool} {i : Nat} {x : Bool} (h : l[i]? = some x) : cnt (l.take (i + 1)) = cnt (l.take i) + if x then 1 else 0 := by
  unfold cnt
  rw [List.take_add_one, h]
  cases x <;> simp
theorem cnt_le (l : List Bool) : cnt l ≤ l.length := List.count_le_length
theorem rvalue_slot {r : RlS} (h : r.value.2 = true) : r.leads = true ∧ r.S < 64 := by
  unfold RlS.value at h
  split at h
  · cases h
  · rename_i h1
    simp only [Bool.or_eq_true, Bool.not_eq_true', decide_eq_true_eq, not_or, Bool.not_eq_false, Int.not_lt] at h1
    exact ⟨h1.1, by omega⟩
/-! ### The two answer alike -/
/-- Keys that are known, as a list of bools. -/
structure KL (D : List (Int × Int)) (l : List Bool) : Prop where
  len : D.length = cnt l
  has : ∀ i : Nat, i < 9 → (mget D (i : Int)).isSome = (l[i]?).getD false
  l9 : l.length = 9
structure LR (s : LdS ByteArray) (r : RlS) : Prop where
  ok : LdOk s
  rok : RlOk r
  vv : s.voters = r.V
  ss : s.slot = r.S
  pr : KL s.prom r.pr
  pr1 : ∀ j x, mget s.prom j = some x → x = 1
  tk : KL s.tak r.tk
  told : ∀ sl, (r.told.foldl (bst sl) (z0V, false)) = match mget s.told sl with | some v => (v, true) | none => (z0V, false)
  off : s.off = if r.has then [r.off] else []
  off0 : r.has = false → r.off = ByteArray.empty
theorem kl_nil : KL [] (List.replicate 9 false) := ⟨rfl, fun i hi => by rw [List.getElem?_replicate, if_pos hi]; rfl, rfl⟩
theorem cnt_set {l : List Bool} {i : Nat} {x : Bool} (h : l[i]? = some x) : cnt (l.set i true) = cnt l + if x then 0 else 1 := by
  unfold cnt
  have hlt := (List.getElem?_eq_some_iff.1 h).1
  have hx : l[i] = x := (List.getElem?_eq_some_iff.1 h).2
  rw [List.count_set hlt, hx]
  cases x with
  | true =>
    have : 1 ≤ List.count true l := List.count_pos_iff.2 (by rw [← hx]; exact List.getElem_mem hlt)
    simp; omega
  | false => simp
theorem kl_inc {D : List (Int × Int)} {l : List Bool} (h : KL D l) {i : Int} (h0 : 0 ≤ i) (h1 : i < 9) : KL (inc D i) (l.set i.toNat true) := by
  obtain ⟨n, rfl⟩ : ∃ n : Nat, i = (n : Int) := ⟨i.toNat, by omega⟩
  have hn : n < 9 := by omega
  have hl : n < l.length := by rw [h.l9]; exact hn
  have hx : l[n]? = some l[n] := List.getElem?_eq_getElem hl
  have hh := h.has n hn
  rw [hx] at hh
  simp only [Option.getD_some] at hh
  simp only [Int.toNat_natCast]
  refine ⟨?_, fun j hj => ?_, by rw [List.length_set, h.l9]⟩
  · rw [inc, mset_length, cnt_set hx, h.len]
    cases hm : mget D (n : Int) with
    | none => rw [hm] at hh; simp at hh; simp [← hh]
    | some y => rw [hm] at hh; simp at hh; simp [← hh]
  · rw [inc, mget_set, List.getElem?_set]
    by_cases e : n = j
    · subst e; simp [hl]
    · rw [if_neg (by omega), if_neg e]; exact h.has j hj
theorem enough_cnt {V : Int} (h0 : 1 ≤ V) (h1 : V ≤ 9) {D : List (Int × Int)} {l : List Bool} (h : KL D l) : enoughB V D = decide (V < 2 * (cnt l : Int)) := by
  obtain ⟨n, rfl⟩ : ∃ n : Nat, V = (n : Int) := ⟨V.toNat, by omega⟩
  rw [enough_n (by omega), h.len]
  congr 1
  apply propext
  omega
theorem lr_leads {s : LdS ByteArray} {r : RlS} (h : LR s r) : s.leads = r.leads := by
  unfold LdS.leads RlS.leads
  rw [h.vv, enough_cnt h.rok.v0 h.rok.v1 h.pr]
theorem lr_value {s : LdS ByteArray} {r : RlS} (h : LR s r) : s.value ByteArray.empty = r.value := by
  unfold LdS.value RlS.value RlS.best
  rw [lr_leads h, h.ss, h.told r.S]
  have h1 : decide ((64 : Int) ≤ r.S) = decide (63 < r.S) := by congr 1
  rw [h1]
  split
  · rfl
  · cases mget s.told r.S with
    | some v => rfl
    | none =>
      simp only [h.off]
      cases hh : r.has with
      | true => simp
      | false => simp [h.off0 hh]
theorem lr_new {v f b : Int} (h : 1 ≤ v ∧ v ≤ 9 ∧ 0 ≤ f ∧ f ≤ 64) : LR (ldNew ByteArray b v f) (rlNew v f) :=
  ⟨⟨h.2.2.1, h.2.2.2, h.1, h.2.1⟩, ⟨h.2.2.1, h.2.2.2, h.1, h.2.1, rfl, rfl⟩, rfl, rfl, kl_nil, fun j x hx => by simp [ldNew, mget, mat] at hx, kl_nil, fun sl => rfl, rfl, fun _ => rfl⟩
theorem lr_offer {s : LdS ByteArray} {r : RlS} (h : LR s r) (x : ByteArray) : (s.offer ByteArray.empty x).1 = (r.offer x).1 ∧ LR (s.offer ByteArray.empty x).2 (r.offer x).2 := by
  unfold LdS.offer RlS.offer
  rw [lr_value h, lr_leads h, h.ss]
  have h1 : decide ((64 : Int) ≤ r.S) = decide (63 < r.S) := by congr 1
  rw [h1]
  split
  · exact ⟨rfl, h⟩
  · exact ⟨rfl, ⟨h.rok.s0, h.rok.s1, h.ok.v0, h.ok.v1⟩, ⟨h.rok.s0, h.rok.s1, h.rok.v0, h.rok.v1, h.rok.lp, h.rok.lt⟩, h.vv, rfl, h.pr, h.pr1, h.tk, h.told, rfl, fun h0 => by cases h0⟩
theorem lr_taken {s : LdS ByteArray} {r : RlS} (h : LR s r) (i sl : Int) : (s.taken ByteArray.empty i sl).1 = (r.taken i sl).1 ∧ LR (s.taken ByteArray.empty i sl).2 (r.taken i sl).2 := by
  unfold LdS.taken RlS.taken
  rw [lr_value h, h.ss]
  have h1 : (!r.value.2 || !decide (sl = r.S) || !s.voter i) = (!r.value.2 || !decide (sl = r.S) || decide (i < 0) || decide (r.V ≤ i)) := by
    have hb : (!s.voter i) = (decide (i < 0) || decide (r.V ≤ i)) := by
      unfold LdS.voter
      rw [h.vv, Bool.eq_iff_iff]
      simp
    rw [hb]; simp only [Bool.or_assoc]
  rw [h1]
  by_cases hc : (!r.value.2 || !decide (sl = r.S) || decide (i < 0) || decide (r.V ≤ i)) = true
  · rw [if_pos hc, if_pos hc]; exact ⟨rfl, h⟩
  · rw [if_neg hc, if_neg hc]
    simp only [Bool.or_eq_true, Bool.not_eq_true', decide_eq_true_eq, not_or, Bool.not_eq_false, Int.not_lt, Int.not_le] at hc
    have hs := rvalue_slot hc.1.1.1
    have hv9 := h.rok.v1
    have hk := kl_inc h.tk hc.1.2 (show i < 9 by omega)
    rw [h.vv, enough_cnt h.rok.v0 h.rok.v1 hk]
    by_cases he : 2 * (cnt (r.tk.set i.toNat true) : Int) ≤ r.V
    · rw [if_pos (by rw [decide_eq_false (by omega)]; rfl), if_pos he]
      exact ⟨rfl, ⟨h.rok.s0, h.rok.s1, h.rok.v0, h.rok.v1⟩, ⟨h.rok.s0, h.rok.s1, h.rok.v0, h.rok.v1, h.rok.lp, by simp [h.rok.lt]⟩, rfl, rfl, h.pr, h.pr1, hk, h.told, h.off, h.off0⟩
    · rw [if_neg (by rw [decide_eq_true (by omega)]; simp), if_neg he]
      have hs0 := h.ok.s0
      have hss := h.ss
      have hr0 := h.rok.s0
      exact ⟨rfl, ⟨by show 0 ≤ r.S + 1; omega, by show r.S + 1 ≤ 64; omega, h.rok.v0, h.rok.v1⟩, ⟨by show 0 ≤ r.S + 1; omega, by show r.S + 1 ≤ 64; omega, h.rok.v0, h.rok.v1, h.rok.lp, rfl⟩, rfl, rfl, h.pr, h.pr1, kl_nil, h.told, rfl, fun _ => rfl⟩
theorem told_step {T : List (Int × Vt ByteArray)} {acc : Int → Vt ByteArray × Bool} (h : ∀ sl, acc sl = match mget T sl with | some v => (v, true) | none => (z0V, false)) (x : Vt ByteArray) :
    ∀ sl, bst sl (acc sl) x = match mget (upd z0V T x) sl with | some v => (v, true) | none => (z0V, false) := fun sl => by
  unfold bst upd
  rw [h sl]
  by_cases e : x.Slot = sl
  · subst e
    cases hm : mget T x.Slot with
    | none => simp [mget_set]
    | some v =>
      by_cases hb : v.Ballot < x.Ballot
      · simp [hb, mget_set]
      · simp [hb, hm]
  · have hn : decide (x.Slot = sl) = false := decide_eq_false e
    have hm : mget (if (!(mget T x.Slot).isSome || decide (((mget T x.Slot).getD z0V).Ballot < x.Ballot)) = true then mset T x.Slot x else T) sl = mget T sl := by
      split
      · rw [mget_set, if_neg e]
      · rfl
    rw [hn, hm]
    simp
theorem told_all : ∀ (vs : List (Vt ByteArray)) {T : List (Int × Vt ByteArray)} {acc : Int → Vt ByteArray × Bool} (h : ∀ sl, acc sl = match mget T sl with | some v => (v, true) | none => (z0V, false)),
    ∀ sl, vs.foldl (bst sl) (acc sl) = match mget (vs.foldl (upd z0V) T) sl with | some v => (v, true) | none => (z0V, false)
  | [], T, acc, h, sl => h sl
  | x :: vs, T, acc, h, sl => by
    have := told_all vs (T := upd z0V T x) (acc := fun sl => bst sl (acc sl) x) (told_step h x) sl
    simpa using this
theorem lr_promised {s : LdS ByteArray} {r : RlS} (h : LR s r) (i : Int) (vs : List (Vt ByteArray)) : LR (s.promised z0V i vs) (r.promised i vs) := by
  unfold LdS.promised RlS.promised
  rw [lr_leads h]
  have hv9 := h.rok.v1
  by_cases h1 : (r.leads || decide (i < 0) || decide (r.V ≤ i) || (r.pr[i.toNat]?).getD false) = true
  · have h2 : (r.leads || !s.voter i || decide (0 < (mget s.prom i).getD 0)) = true := by
      simp only [Bool.or_eq_true, decide_eq_true_eq] at h1
      simp only [LdS.voter, h.vv, Bool.or_eq_true, Bool.not_eq_true', Bool.and_eq_false_iff, decide_eq_false_iff_not, decide_eq_true_eq]
      rcases h1 with ((h1 | h1) | h1) | h1
      · exact .inl (.inl h1)
      · exact .inl (.inr (.inl (by omega)))
      · exact .inl (.inr (.inr (by omega)))
      · by_cases h0 : 0 ≤ i ∧ i < r.V
        · right
          have hh := h.pr.has i.toNat (by omega)
          rw [h1, show ((i.toNat : Nat) : Int) = i by omega] at hh
          obtain ⟨y, hy⟩ := Option.isSome_iff_exists.1 hh
          have := h.pr1 _ _ hy
          rw [hy, this]; decide
        · exact .inl (.inr (by omega))
    rw [if_pos h1, if_pos h2]; exact h
  · have h2 : ¬ (r.leads || !s.voter i || decide (0 < (mget s.prom i).getD 0)) = true := by
      simp only [Bool.or_eq_true, decide_eq_true_eq, not_or, Bool.not_eq_true, Int.not_lt, Int.not_le] at h1
      simp only [LdS.voter, h.vv, Bool.or_eq_true, Bool.not_eq_true', Bool.and_eq_false_iff, decide_eq_false_iff_not, decide_eq_true_eq, not_or, Bool.not_eq_true, Int.not_lt, Int.not_le, Classical.not_not]
      have hh := h.pr.has i.toNat (by omega)
      rw [h1.2, show ((i.toNat : Nat) : Int) = i by omega] at hh
      have hn : mget s.prom i = none := by simpa using hh
      refine ⟨⟨h1.1.1.1, by omega, by omega⟩, by rw [hn]; simp⟩
    rw [if_neg h1, if_neg h2]
    simp only [Bool.or_eq_true, decide_eq_true_eq, not_or, Bool.not_eq_true, Int.not_lt, Int.not_le] at h1
    refine ⟨⟨h.ok.s0, h.ok.s1, h.ok.v0, h.ok.v1⟩, ⟨h.rok.s0, h.rok.s1, h.rok.v0, h.rok.v1, by simp [h.rok.lp], h.rok.lt⟩, h.vv, h.ss, kl_inc h.pr h1.1.1.2 (by omega), fun j x hx => ?_, h.tk, fun sl => ?_, h.off, h.off0⟩
    · simp only [inc, mget_set] at hx
      split at hx
      · rename_i e
        subst e
        have hh := h.pr.has i.toNat (by omega)
        rw [h1.2, show ((i.toNat : Nat) : Int) = i by omega] at hh
        have hn : mget s.prom i = none := by simpa using hh
        rw [hn] at hx
        simp [IntKind.wrap, IntKind.signed, IntKind.bits] at hx
        omega
      · exact h.pr1 _ _ hx
    · simp only [List.foldl_append]
      exact told_all vs h.told sl
theorem told_promised {r : RlS} {i : Int} {vs : List (Vt ByteArray)} : (r.promised i vs).told.length ≤ r.told.length + vs.length := by
  unfold RlS.promised; split
  · omega
  · simp
theorem told_offer {r : RlS} {x : ByteArray} : (r.offer x).2.told = r.told := by unfold RlS.offer; split <;> rfl
theorem told_taken {r : RlS} {i s : Int} : (r.taken i s).2.told = r.told := by unfold RlS.taken; split; rfl; split <;> rfl
end Go.Proofs.Ytakjmdeckngnlaa
