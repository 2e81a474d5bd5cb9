/- Arguments that came in, as typed lists: out of the form's own reading. -/
import Derived.Test.YtlblipkcbmcfkaaSlice
import Derived.ProofKit
import Derived.OpenShut
import Derived.ShutString
import Derived.ChangeOld
import Derived.Carry
import Derived.Deep.Slices
set_option linter.unusedVariables false
set_option linter.unusedSimpArgs false
namespace Go.Proofs.Ytlblipkcbmcfkaa
open Go.RowKit

theorem cellsOf_ti {P : Program} {t : TypeId} {z : Value} {s b : Nat} (h : TI P t z s b) : P.cellsOf t = s := by
  obtain ⟨i, hi, _, hs, _⟩ := h.get
  simp [Program.cellsOf, hi, hs]
structure Opens {α : Type} (P : Program) (W : World) (t : TypeId) (cells : α → List Value) (Good : α → Prop) : Prop where
  op : ∀ {H : Type} (enc : TypeId × Value → H) (fuel : Nat) (cs : List Value) (y : DataW H × List MemPlace), DataW.trod enc P W 0 (fun _ => true) true fuel t cs = some y → ∃ x : α, cs = cells x ∧ Good x
theorem opens_int {P : Program} {W : World} {t : TypeId} {k : IntKind} (ht : P.underlying t = some (.int k)) : Opens P W t (fun x : Int => [Value.int k x]) (fun x => (Lit.int k x).wf = true) where
  op := fun enc fuel cs y h => by
    cases fuel with
    | zero => cases h
    | succ n =>
      unfold DataW.trod at h
      rw [ht] at h
      cases cs with
      | nil => cases h
      | cons v cs =>
        cases cs with
        | cons u cs => cases v <;> simp at h
        | nil =>
          cases v <;> simp at h
          obtain ⟨⟨rfl, hw⟩, _⟩ := h
          exact ⟨_, rfl, hw⟩
theorem opens_bool {P : Program} {W : World} {t : TypeId} (ht : P.underlying t = some .bool) : Opens P W t (fun x : Bool => [Value.bool x]) (fun _ => True) where
  op := fun enc fuel cs y h => by
    cases fuel with
    | zero => cases h
    | succ n =>
      unfold DataW.trod at h
      rw [ht] at h
      cases cs with
      | nil => cases h
      | cons v cs =>
        cases cs with
        | cons u cs => cases v <;> simp at h
        | nil =>
          cases v <;> simp at h
          exact ⟨_, rfl, trivial⟩
theorem opens_str {P : Program} {W : World} {t : TypeId} (ht : P.underlying t = some .string) : Opens P W t (fun x : ByteArray => [Value.string x]) (fun x => x.size ≤ maxLen) where
  op := fun enc fuel cs y h => by
    cases fuel with
    | zero => cases h
    | succ n =>
      unfold DataW.trod at h
      rw [ht] at h
      cases cs with
      | nil => cases h
      | cons v cs =>
        cases cs with
        | cons u cs => cases v <;> simp at h
        | nil =>
          cases v <;> simp at h
          exact ⟨_, rfl, h.1⟩
theorem Opens.mono {α : Type} {P : Program} {W : World} {t : TypeId} {cells : α → List Value} {G G' : α → Prop} (h : Opens P W t cells G) (hg : ∀ x, G x → G' x) : Opens P W t cells G' where
  op := fun enc fuel cs y ht => let ⟨x, h1, h2⟩ := h.op enc fuel cs y ht; ⟨x, h1, hg x h2⟩
/-- A slice that came in. -/
structure Sl (α : Type) where
  a : Option Addr
  xs : List α
  c : Nat
def Sl.val {α : Type} (s : Sl α) : Value := .slice s.a s.xs.length s.c
structure SlGood {α : Type} (W : World) (e : Enc α) (G : α → Prop) (s : Sl α) : Prop where
  rd : SlR W e s.a s.xs
  le : s.xs.length ≤ s.c
  max : s.c ≤ maxLen
  all : ∀ x ∈ s.xs, G x
theorem flat_at {α : Type} {P : Program} {e : Enc α} (ok : EncOk P e) : ∀ {xs : List α} {j : Nat} {u : Value}, (flat e xs)[j]? = some u → ∃ (i : Nat) (x : α) (o : Nat), xs[i]? = some x ∧ (e.cells x)[o]? = some u ∧ j = i * e.sz + o
  | [], j, u, h => by simp [flat] at h
  | y :: ys, j, u, h => by
    have h0 : flat e (y :: ys) = e.cells y ++ flat e ys := rfl
    rw [h0] at h
    by_cases hj : j < (e.cells y).length
    · rw [List.getElem?_append_left hj] at h
      exact ⟨0, y, j, rfl, h, by omega⟩
    · rw [List.getElem?_append_right (by omega), ok.len] at h
      obtain ⟨i, x, o, h1, h2, h3⟩ := flat_at ok h
      rw [ok.len] at hj
      exact ⟨i + 1, x, o, by simpa using h1, h2, by rw [Nat.add_mul]; omega⟩
theorem mapM_get {α β : Type} (f : α → Option β) : ∀ (l : List α) (cs : List β), l.mapM f = some cs → ∀ (j : Nat) (u : β), cs[j]? = some u → ∃ i : α, l[j]? = some i ∧ f i = some u
  | [], cs, h, j, u, hj => by
    simp at h
    subst h
    cases hj
  | a :: l, cs, h, j, u, hj => by
    simp only [List.mapM_cons, Option.bind_eq_bind, Option.bind_eq_some_iff, Option.pure_def, Option.some.injEq] at h
    obtain ⟨b, hb, cs', hc, rfl⟩ := h
    cases j with
    | zero =>
      simp only [List.getElem?_cons_zero, Option.some.injEq] at hj
      subst hj
      exact ⟨a, rfl, hb⟩
    | succ j => exact mapM_get f l cs' hc j u (by simpa using hj)
theorem cells?_get {w : World} {base : Nat} {a : Addr} {n : Nat} {cs : List Value} (h : w.cells? base a n = some cs) : ∀ j u, cs[j]? = some u → w.cell? (a.add j) = some u := fun j u hj => by
  unfold World.cells? at h
  split at h
  · obtain ⟨i, h1, h2⟩ := mapM_get _ _ _ h j u hj
    have : i = j := by
      rw [List.getElem?_range] at h1
      · simpa using h1.symm
      · rcases Nat.lt_or_ge j n with h | h
        · exact h
        · rw [List.getElem?_eq_none (by simpa using h)] at h1; cases h1
    subst this
    exact h2
  · cases h
theorem exists_list {α : Type} {p : Nat → α → Prop} : ∀ (len : Nat), (∀ i, i < len → ∃ x, p i x) → ∃ xs : List α, xs.length = len ∧ ∀ i x, xs[i]? = some x → p i x
  | 0, _ => ⟨[], rfl, fun i x h => by cases h⟩
  | k + 1, hel => by
    obtain ⟨xs, hlen, hxs⟩ := exists_list k (fun i hi => hel i (by omega))
    obtain ⟨x, hx⟩ := hel k (by omega)
    refine ⟨xs ++ [x], by simp [hlen], fun i y hy => ?_⟩
    by_cases hi : i < xs.length
    · rw [List.getElem?_append_left hi] at hy
      exact hxs i y hy
    · rw [List.getElem?_append_right (by omega)] at hy
      have : i - xs.length = 0 := by
        rcases Nat.eq_zero_or_pos (i - xs.length) with h | h
        · exact h
        · rw [List.getElem?_eq_none (by simp; omega)] at hy; cases hy
      rw [this] at hy
      simp only [List.getElem?_cons_zero, Option.some.injEq] at hy
      subst hy
      have : i = k := by omega
      subst this
      exact hx
theorem opens_slice {α : Type} {P : Program} {W : World} {t : TypeId} {e : Enc α} {G : α → Prop} (ok : EncOk P e) (ht : P.underlying t = some (.slice e.T)) (ho : Opens P W e.T e.cells G) : Opens P W t (fun s : Sl α => [s.val]) (SlGood W e G) where
  op := fun enc fuel cs y h => by
    rcases Deep.open_slice ht h with ⟨rfl, _⟩ | ⟨a, len, cap, m, n, D, Pl, rfl, hb, hl, hm, hmm, _, hx⟩
    · exact ⟨⟨none, [], 0⟩, rfl, fun h0 => absurd rfl h0, Nat.zero_le _, Nat.zero_le _, fun x hx => by cases hx⟩
    · have hsz : P.cellsOf e.T = e.sz := by
        obtain ⟨i, hi, _, hs, _⟩ := ok.ti.get
        simp [Program.cellsOf, hi, hs]
      have hel : ∀ i, i < len → ∃ x : α, (∀ o u, (e.cells x)[o]? = some u → W.cell? (a.add (i * e.sz + o)) = some u) ∧ G x := fun i hi => by
        obtain ⟨cs', h1, h2⟩ := hx i (by rw [hmm]; split <;> omega)
        obtain ⟨x, rfl, hg⟩ := ho.op enc n cs' _ h2
        refine ⟨x, fun o u hu => ?_, hg⟩
        rw [hsz] at h1
        rw [← Addr.add_add']
        exact cells?_get h1 o u hu
      obtain ⟨xs, rfl, hxs⟩ := exists_list len hel
      refine ⟨⟨some a, xs, cap⟩, rfl, fun _ => ⟨a, rfl, fun j u hj => ?_⟩, hl, hm, fun x hx => ?_⟩
      · obtain ⟨i, x, o, h1, h2, rfl⟩ := flat_at ok hj
        exact (hxs i x h1).1 o u h2
      · obtain ⟨i, hi⟩ := List.getElem?_of_mem hx
        exact (hxs i x hi).2
theorem wf_i64 {x : Int} (h : (Lit.int .i64 x).wf = true) : -9223372036854775808 ≤ x ∧ x ≤ 9223372036854775807 := by
  simp [Lit.wf, IntKind.min, IntKind.max, IntKind.signed, IntKind.bits] at h; omega
theorem wf_u64 {x : Int} (h : (Lit.int .u64 x).wf = true) : ∃ m : Nat, x = (m : Int) ∧ m < 18446744073709551616 := by
  simp [Lit.wf, IntKind.min, IntKind.max, IntKind.signed, IntKind.bits] at h; exact ⟨x.toNat, by omega, by omega⟩
theorem wf_u32 {x : Int} (h : (Lit.int .u32 x).wf = true) : ∃ m : Nat, x = (m : Int) ∧ m < 4294967296 := by
  simp [Lit.wf, IntKind.min, IntKind.max, IntKind.signed, IntKind.bits] at h; exact ⟨x.toNat, by omega, by omega⟩
theorem opens_u8 {P : Program} {W : World} {t : TypeId} (ht : P.underlying t = some (.int .u8)) : Opens P W t (fun x : UInt8 => [Value.int .u8 (x.toNat : Int)]) (fun _ => True) where
  op := fun enc fuel cs y h => by
    obtain ⟨x, rfl, g⟩ := (opens_int (W := W) ht).op enc fuel cs y h
    simp [Lit.wf, IntKind.min, IntKind.max, IntKind.signed, IntKind.bits] at g
    refine ⟨UInt8.ofNat x.toNat, ?_, trivial⟩
    have : ((UInt8.ofNat x.toNat).toNat : Int) = x := by simp; omega
    rw [this]
end Go.Proofs.Ytlblipkcbmcfkaa
