/- A leader's state, and what its calls do to it: the plain law. -/
import Derived.Test.YtakjmdeckngnlaaMap
set_option linter.unusedVariables false
set_option linter.unusedSimpArgs false
namespace Go.Proofs.Ytakjmdeckngnlaa
open Go.RowKit
theorem bae : (⟨#[]⟩ : ByteArray) = ByteArray.empty := rfl
/-- A vote. -/
structure Vt (β : Type) where
  Slot : Int
  Ballot : Int
  Value : β
structure LdS (β : Type) where
  ballot : Int
  voters : Int
  slot : Int
  prom : List (Int × Int)
  told : List (Int × Vt β)
  off : List β
  tak : List (Int × Int)
section
variable {β : Type}
def upd (z : Vt β) (told : List (Int × Vt β)) (v : Vt β) : List (Int × Vt β) :=
  if (!(mget told v.Slot).isSome) || decide (((mget told v.Slot).getD z).Ballot < v.Ballot) then mset told v.Slot v else told
def enoughB (voters : Int) (D : List (Int × Int)) : Bool := decide (IntKind.i64.wrap (voters.tdiv 2) < (D.length : Int))
def LdS.leads (s : LdS β) : Bool := enoughB s.voters s.prom
def LdS.value (z : β) (s : LdS β) : β × Bool :=
  if !s.leads || decide (64 ≤ s.slot) then (z, false) else
    match mget s.told s.slot with
    | some v => (v.Value, true)
    | none => match s.off with
      | x :: _ => (x, true)
      | [] => (z, false)
def LdS.offer (z : β) (s : LdS β) (x : β) : Bool × LdS β := if (s.value z).2 || !s.leads || decide (64 ≤ s.slot) then (false, s) else (true, { s with off := [x] })
def LdS.voter (s : LdS β) (i : Int) : Bool := decide (0 ≤ i) && decide (i < s.voters)
def inc (D : List (Int × Int)) (i : Int) : List (Int × Int) := mset D i (IntKind.i64.wrap ((mget D i).getD 0 + 1))
def LdS.taken (z : β) (s : LdS β) (i sl : Int) : (β × Bool) × LdS β :=
  if !(s.value z).2 || !decide (sl = s.slot) || !s.voter i then ((z, false), s)
  else if !enoughB s.voters (inc s.tak i) then ((z, false), { s with tak := inc s.tak i })
  else (((s.value z).1, true), { s with slot := s.slot + 1, off := [], tak := [] })
def LdS.promised (z : Vt β) (s : LdS β) (i : Int) (votes : List (Vt β)) : LdS β :=
  if s.leads || !s.voter i || decide (0 < (mget s.prom i).getD 0) then s else { s with prom := inc s.prom i, told := votes.foldl (upd z) s.told }
structure LdOk (s : LdS β) : Prop where
  s0 : 0 ≤ s.slot
  s1 : s.slot ≤ 64
  v0 : 1 ≤ s.voters
  v1 : s.voters ≤ 9
def ldNew (β : Type) (b v f : Int) : LdS β := ⟨b, v, f, [], [], [], []⟩
theorem value_slot {z : β} {s : LdS β} (h : (s.value z).2 = true) : s.leads = true ∧ s.slot < 64 := by
  unfold LdS.value at h
  split at h
  · cases h
  · rename_i h1
    simp only [Bool.or_eq_true, Bool.not_eq_true', decide_eq_true_eq, not_or, Bool.not_eq_false, Int.not_le] at h1
    exact h1
theorem take_foldl {α γ : Type} (f : γ → α → γ) (z : γ) {xs : List α} {i : Nat} {x : α} (h : xs[i]? = some x) : (xs.take (i + 1)).foldl f z = f ((xs.take i).foldl f z) x := by
  rw [List.take_add_one, h]
  simp [List.foldl_append]
end
end Go.Proofs.Ytakjmdeckngnlaa
