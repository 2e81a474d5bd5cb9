/- Two filters of one log, one of which is told each entry twice: the plain law. -/
import Derived.Test.YtjoigmbapnjhhaaFili
set_option linter.unusedVariables false
set_option linter.unusedSimpArgs false
namespace Go.Proofs.Ytjoigmbapnjhhaa
open Go.RowKit Classical
structure OnceI (g : Int) (pre : List Item) (s q : FS) (D : List (Tag × Bool)) (l : Int) : Prop where
  hs : Vw s g l (runs g pre)
  hq : Vw q g l (fun t => 2 * runs g pre t)
  hd : ∀ t, (mget D t).getD false = true ↔ runs g pre t ≠ 0
def CX (g l : Int) (pre : List Item) (x : Item) : Prop := (RunOk g x ∧ runs g pre x.ord.tag = 0) ∨ (PieceOk g x ∧ l < x.f_Index)
theorem lastOn2 (g l : Int) (x : Item) : lastOn g (lastOn g l x) x = lastOn g l x := by
  unfold lastOn
  by_cases h : PieceOk g x ∧ l < x.f_Index
  · rw [if_pos h, if_neg (fun h9 => by omega)]
  · rw [if_neg h, if_neg h]
theorem vw_congr {s : FS} {g l : Int} {n m : Tag → Nat} (h : Vw s g l n) (e : ∀ t, n t = m t) : Vw s g l m := ⟨h.region, h.last, fun t => by rw [h.cnt, e]⟩
structure OnceN (g : Int) (pre : List Item) (s q : FS) (l : Int) (x : Item) : Prop where
  e1 : (s.item x).1 = decide (CX g l pre x)
  e2 : (q.item x).1 = (s.item x).1
  e3 : ((q.item x).2.item x).1 = false
  v1 : Vw (s.item x).2 g (lastOn g l x) (runs g (pre ++ [x]))
  v2 : Vw ((q.item x).2.item x).2 g (lastOn g l x) (fun t => 2 * runs g (pre ++ [x]) t)
theorem once_on {g : Int} {pre : List Item} {s q : FS} {l : Int} (hs : Vw s g l (runs g pre)) (hq : Vw q g l (fun t => 2 * runs g pre t)) (hl : pre.length ≤ 40) (x : Item) : OnceN g pre s q l x := by
  have hb : ∀ t, runs g pre t ≤ 40 := fun t => Nat.le_trans (runs_le g pre t) hl
  obtain ⟨a1, a2⟩ := item_vw hs x (fun t => by have := hb t; omega)
  obtain ⟨b1, b2⟩ := item_vw hq x (fun t => by have := hb t; omega)
  obtain ⟨c1, c2⟩ := item_vw b2 x (fun t => by have := hb t; split <;> omega)
  have h2 : 2 * runs g pre x.ord.tag = 0 ↔ runs g pre x.ord.tag = 0 := by omega
  refine ⟨by rw [a1, decide_eq_decide]; exact Iff.rfl, by rw [a1, b1, decide_eq_decide]; simp only [h2], ?_, vw_congr a2 fun t => by rw [runs_snoc], ?_⟩
  · rw [c1, decide_eq_false_iff_not]
    rintro (⟨h1, h2⟩ | ⟨h1, h2⟩)
    · rw [if_pos ⟨h1, rfl⟩] at h2; omega
    · unfold lastOn at h2
      by_cases h3 : l < x.f_Index
      · rw [if_pos ⟨h1, h3⟩] at h2; omega
      · rw [if_neg (fun h9 => h3 h9.2)] at h2; omega
  · rw [lastOn2] at c2
    refine vw_congr c2 fun t => ?_
    rw [runs_snoc]
    by_cases h : RunOk g x ∧ x.ord.tag = t
    · rw [if_pos h, if_pos h, if_pos h]; omega
    · rw [if_neg h, if_neg h, if_neg h]
theorem once_0 (g : Int) : OnceI g [] ⟨g, -1, []⟩ ⟨g, -1, []⟩ [] (-1) := ⟨Vw.new g, Vw.new g, fun t => by simp [mget, mat, runs]⟩
section
variable {g : Int} {log : List Item} {i : Nat} {s q : FS} {D : List (Tag × Bool)} {l : Int} {x : Item}
theorem tk_on (hx : log[((i : Int)).toNat]? = some x) : log.take (i + 1) = log.take i ++ [x] := by
  have hx' : log[i]? = some x := hx
  rw [List.take_add_one, hx']; rfl
theorem once_no (h : OnceI g (log.take i) s q D l) (n : OnceN g (log.take i) s q l x) (hx : log[((i : Int)).toNat]? = some x) (hc : ¬ CX g l (log.take i) x) : OnceI g (log.take (i + 1)) (s.item x).2 ((q.item x).2.item x).2 D l := by
  rw [tk_on hx]
  have hl : lastOn g l x = l := if_neg (fun h9 => hc (.inr h9))
  refine ⟨by have := n.v1; rw [hl] at this; exact this, by have := n.v2; rw [hl] at this; exact this, fun t => ?_⟩
  rw [h.hd, runs_snoc]
  by_cases e : RunOk g x ∧ x.ord.tag = t
  · rw [if_pos e]
    refine ⟨fun _ => by omega, fun _ h0 => hc (.inl ⟨e.1, by rw [e.2]; exact h0⟩)⟩
  · rw [if_neg e]
theorem once_run (h : OnceI g (log.take i) s q D l) (n : OnceN g (log.take i) s q l x) (hx : log[((i : Int)).toNat]? = some x) (hc : CX g l (log.take i) x) (hk : x.f_Kind = 1) : OnceI g (log.take (i + 1)) (s.item x).2 ((q.item x).2.item x).2 (mset D x.ord.tag true) l := by
  rw [tk_on hx]
  have hl : lastOn g l x = l := if_neg (fun h9 => by have := h9.1.1; omega)
  have hr : RunOk g x := by rcases hc with h1 | h1; exact h1.1; have := h1.1.1; omega
  refine ⟨by have := n.v1; rw [hl] at this; exact this, by have := n.v2; rw [hl] at this; exact this, fun t => ?_⟩
  rw [mget_set, runs_snoc]
  by_cases e : x.ord.tag = t
  · rw [if_pos e, if_pos ⟨hr, e⟩]; simp
  · rw [if_neg e, if_neg (fun h9 => e h9.2)]; exact h.hd t
theorem once_piece (h : OnceI g (log.take i) s q D l) (n : OnceN g (log.take i) s q l x) (hx : log[((i : Int)).toNat]? = some x) (hc : CX g l (log.take i) x) (hk : ¬ x.f_Kind = 1) : OnceI g (log.take (i + 1)) (s.item x).2 ((q.item x).2.item x).2 D x.f_Index := by
  rw [tk_on hx]
  have hp : PieceOk g x ∧ l < x.f_Index := by rcases hc with h1 | h1; exact absurd h1.1.1 hk; exact h1
  have hl : lastOn g l x = x.f_Index := if_pos hp
  refine ⟨by have := n.v1; rw [hl] at this; exact this, by have := n.v2; rw [hl] at this; exact this, fun t => ?_⟩
  rw [h.hd, runs_snoc, if_neg (fun h9 => hk h9.1.1)]
theorem once_new (h : OnceI g (log.take i) s q D l) (hc : CX g l (log.take i) x) (hk : x.f_Kind = 1) : (mget D x.ord.tag).getD false = false := by
  have hr : runs g (log.take i) x.ord.tag = 0 := by rcases hc with h1 | h1; exact h1.2; have := h1.1.1; omega
  cases h9 : (mget D x.ord.tag).getD false with
  | false => rfl
  | true => exact absurd hr ((h.hd _).1 h9)
theorem once_above (hc : CX g l (log.take i) x) (hk : ¬ x.f_Kind = 1) : ¬ x.f_Index ≤ l := by
  rcases hc with h1 | h1
  · exact absurd h1.1.1 hk
  · have := h1.2; omega
end
end Go.Proofs.Ytjoigmbapnjhhaa
