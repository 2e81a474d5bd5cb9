/- Texts of the proof: Sep, Step, Ops, Mem, Map, More, Slice, Val, Draw, Held, Open, Range, Many, Ins, Treep, Tree. -/
import Derived.WalkKit
import Derived.WalkSpells
import Derived.WalkLawsBesides
import Derived.TacticsIn
import Derived.RangeFuncRecord
import Derived.RangeFuncCalls
import Derived.Maps.AppendAt
import Derived.Deep.QuietTactic
import Derived.OrdersHeld
import Derived.OrdersIn
import Derived.ProofKit
import Derived.OpenShut
import Derived.ShutString
import Derived.ChangeOld
import Derived.Carry
import Derived.Deep.Slices
import Derived.RangeFuncNested
import Derived.Laws.IdiomStrings
import Derived.Lib.AppendZerosOnto
import Derived.Lib.Overlaps
import Derived.Laws.CopyRow
import Derived.Laws.Externs
namespace Go.Proofs.Ytnfbjidpiglabaa
section
set_option linter.unusedVariables false
set_option linter.unusedSimpArgs false
open Go.RowKit
abbrev PH := Nat → Option Obj
abbrev Res := PH → Prop
def PH.dj (a b : PH) : Prop := ∀ k, a k = none ∨ b k = none
def PH.un (a b : PH) : PH := fun k => (a k).or (b k)
def emp : Res := fun h => ∀ k, h k = none
def star (A B : Res) : Res := fun h => ∃ a b : PH, PH.dj a b ∧ h = PH.un a b ∧ A a ∧ B b
def stars : List Res → Res
  | [] => emp
  | A :: L => star A (stars L)
def blk (k : Nat) (o : Obj) : Res := fun h => h = fun j => if j = k then some o else none
def pur (p : Prop) : Res := fun h => p ∧ emp h
def sex {α : Type} (A : α → Res) : Res := fun h => ∃ x, A x h
theorem PH.dj_symm {a b : PH} (h : PH.dj a b) : PH.dj b a := fun k => (h k).symm
theorem PH.un_comm {a b : PH} (h : PH.dj a b) : PH.un a b = PH.un b a := by
  funext k
  rcases h k with h | h <;> simp [PH.un, h]
theorem PH.un_assoc (a b c : PH) : PH.un (PH.un a b) c = PH.un a (PH.un b c) := by
  funext k
  simp [PH.un, Option.or_assoc]
theorem PH.dj_un {a b c : PH} (h : PH.dj a (PH.un b c)) : PH.dj a b ∧ PH.dj a c := by
  refine ⟨fun k => ?_, fun k => ?_⟩ <;>
  · rcases h k with h | h
    · exact .inl h
    · simp only [PH.un, Option.or_eq_none_iff] at h
      first | exact .inr h.1 | exact .inr h.2
theorem PH.un_dj {a b c : PH} (h1 : PH.dj a b) (h2 : PH.dj a c) : PH.dj a (PH.un b c) := fun k => by
  rcases h1 k with h | h
  · exact .inl h
  · rcases h2 k with h' | h'
    · exact .inl h'
    · exact .inr (by simp [PH.un, h, h'])
theorem star_swap {A B : Res} {h : PH} (hs : star A B h) : star B A h := by
  obtain ⟨a, b, hd, he, ha, hb⟩ := hs
  exact ⟨b, a, PH.dj_symm hd, he.trans (PH.un_comm hd), hb, ha⟩
theorem star_assoc {A B C : Res} {h : PH} : star (star A B) C h ↔ star A (star B C) h := by
  constructor
  · rintro ⟨ab, c, hd, rfl, ⟨a, b, hd2, rfl, ha, hb⟩, hc⟩
    have h3 := PH.dj_un (PH.dj_symm hd)
    exact ⟨a, PH.un b c, PH.un_dj hd2 (PH.dj_symm h3.1), PH.un_assoc _ _ _, ha, b, c, PH.dj_symm h3.2, rfl, hb, hc⟩
  · rintro ⟨a, bc, hd, rfl, ha, b, c, hd2, rfl, hb, hc⟩
    have h3 := PH.dj_un hd
    exact ⟨PH.un a b, c, PH.dj_symm (PH.un_dj (PH.dj_symm h3.2) (PH.dj_symm hd2)), (PH.un_assoc _ _ _).symm, ⟨a, b, h3.1, rfl, ha, hb⟩, hc⟩
theorem star_mono {A B A' B' : Res} (h1 : ∀ h, A h → A' h) (h2 : ∀ h, B h → B' h) {h : PH} (hs : star A B h) : star A' B' h := by
  obtain ⟨a, b, hd, he, ha, hb⟩ := hs
  exact ⟨a, b, hd, he, h1 _ ha, h2 _ hb⟩
theorem emp_un {a e : PH} (he : emp e) : PH.un e a = a := by funext k; simp [PH.un, he k]
theorem stars_swap {A B : Res} {L : List Res} {h : PH} (hs : stars (A :: B :: L) h) : stars (B :: A :: L) h :=
  star_assoc.1 (star_mono (fun _ => star_swap) (fun _ x => x) (star_assoc.2 hs))
theorem stars_perm {L L' : List Res} (hp : L.Perm L') : ∀ {h : PH}, stars L h → stars L' h := by
  induction hp with
  | nil => exact fun h => h
  | cons x _ ih => exact fun h => star_mono (fun _ x => x) (fun _ => ih) h
  | swap x y l => exact fun h => stars_swap h
  | trans _ _ ih1 ih2 => exact fun h => ih2 (ih1 h)
theorem stars_append {L L' : List Res} {h : PH} : stars (L ++ L') h ↔ star (stars L) (stars L') h := by
  induction L generalizing h with
  | nil =>
    constructor
    · intro hs
      exact ⟨fun _ => none, h, fun _ => .inl rfl, by funext k; simp [PH.un], fun _ => rfl, hs⟩
    · rintro ⟨a, b, _, rfl, ha, hb⟩
      rw [emp_un ha]
      exact hb
  | cons A L ih =>
    constructor
    · intro hs
      exact star_assoc.2 (star_mono (fun _ x => x) (fun _ x => ih.1 x) hs)
    · intro hs
      exact star_mono (fun _ x => x) (fun _ x => ih.2 x) (star_assoc.1 hs)
theorem ask_drawn {α : Type} : ∀ (q : Ask α) (w : World), w.drawn ≤ (w.ask q).2.drawn
  | .done a, w => by rw [World.ask]; exact Nat.le_refl _
  | .ask what range k, w => by
    rw [World.ask]
    split
    · exact ask_drawn _ w
    · exact Nat.le_trans (Nat.le_succ _) (ask_drawn _ { w with drawn := w.drawn + 1 })
theorem sys_drawn (w : World) (c : Sys) : w.drawn ≤ (w.sys c).2.drawn := by
  unfold World.sys
  have h := ask_drawn (Kernel.perform c w.os) w
  split
  · exact Nat.le_refl _
  · rename_i r os w1 hq e
    rw [e] at h; exact h
theorem farStore_drawn {P : Program} {w w' : World} {a : Addr} {v : Value} {b : Bool} {l : List Addr} (h : w.farStore P a v b = .ok (w', l)) : w'.drawn = w.drawn := by
  unfold World.farStore at h
  split at h
  · split at h
    · rename_i r hr
      cases h
      unfold World.viewStore at hr
      simp only [bind, Except.bind, pure, Except.pure, throw, throwThe, MonadExceptOf.throw] at hr
      repeat' (split at hr)
      all_goals first | (cases hr; done) | (cases hr; rfl)
    · cases h
  · cases h
theorem run_drawn {P : Program} {α : Type} : ∀ (s : Sem α) (w : World) {v : α} {w' : World}, s.run P w = .ok v w' → w.drawn ≤ w'.drawn := by
  intro s
  induction s with
  | pure a => intro w v w' h; simp only [Sem.run, Result.ok.injEq] at h; rw [h.2]; exact Nat.le_refl _
  | load m a k ih =>
    intro w v w' h
    simp only [Sem.run] at h
    split at h
    · exact ih _ _ h
    · split at h
      · exact ih _ _ h
      · cases h
  | store m a x k ih =>
    intro w v w' h
    cases x <;> simp only [Sem.run] at h <;> first
      | (cases h; done)
      | (split at h
         · split at h
           · cases h
           · exact ih (w.setCell _ _) h
         · split at h
           · rename_i hf
             have h1 := farStore_drawn hf
             have h2 := ih _ h
             omega
           · cases h)
  | new o k ih => intro w v w' h; simp only [Sem.run] at h; exact ih _ { w with heap := w.heap.push o } h
  | shape r k ih => intro w v w' h; simp only [Sem.run] at h; exact ih _ _ h
  | freeze a n k ih =>
    intro w v w' h; simp only [Sem.run] at h
    have h1 := ih _ h
    have h2 : (w.freeze a n).drawn = w.drawn := by unfold World.freeze; split <;> rfl
    omega
  | frozen a k ih => intro w v w' h; simp only [Sem.run] at h; exact ih _ _ h
  | getObj r k ih =>
    intro w v w' h
    simp only [Sem.run] at h
    split at h
    · cases h
    · exact ih _ _ h
    · cases h
  | setObj r o k ih =>
    intro w v w' h
    simp only [Sem.run] at h
    split at h
    · cases h
    · exact ih { w with heap := w.heap.setIfInBounds r o } h
    · cases h
  | choose q k ih =>
    intro w v w' h
    simp only [Sem.run] at h
    split at h
    · exact ih _ _ h
    · exact Nat.le_trans (Nat.le_succ _) (ih _ { w with drawn := w.drawn + 1 } h)
  | sys c k ih => intro w v w' h; simp only [Sem.run] at h; exact Nat.le_trans (sys_drawn w c) (ih _ _ h)
  | program k ih => intro w v w' h; simp only [Sem.run] at h; exact ih _ _ h
  | mark m k ih => intro w v w' h; simp only [Sem.run] at h; exact ih _ h
  | halt x => intro w v w' h; simp only [Sem.run] at h; cases h
/-- In w, beside all of the world W as9 it was, the resources L hold: in blocks that are no blocks of W, no two in one. -/
structure Sat (W w : World) (L : List Res) : Prop where
  below : Below W.heap.size W w
  dr : W.drawn ≤ w.drawn
  own : ∃ h, stars L h ∧ ∀ k o, h k = some o → W.heap.size ≤ k ∧ w.heap[k]? = some o
section
variable {W w w' : World} {L L' : List Res} {A B : Res}
theorem Sat.start (W : World) : Sat W W [] := ⟨Below.refl _ _, Nat.le_refl _, fun _ => none, fun _ => rfl, fun _ _ h => by cases h⟩
theorem Sat.conv (h : Sat W w L) (hi : ∀ h, stars L h → stars L' h) : Sat W w L' :=
  ⟨h.below, h.dr, let ⟨x, hx, hy⟩ := h.own; ⟨x, hi _ hx, hy⟩⟩
theorem Sat.perm (h : Sat W w L) (hp : L.Perm L') : Sat W w L' := h.conv fun _ => stars_perm hp
theorem Sat.imp (h : Sat W w (A :: L)) (hi : ∀ h, A h → B h) : Sat W w (B :: L) := h.conv fun _ => star_mono hi fun _ x => x
theorem Sat.tail (h : Sat W w (A :: L)) : Sat W w L := by
  obtain ⟨x, ⟨a, b, hd, rfl, ha, hb⟩, hy⟩ := h.own
  refine ⟨h.below, h.dr, b, hb, fun k o hk => hy k o ?_⟩
  rcases hd k with h' | h'
  · simp [PH.un, h', hk]
  · rw [h'] at hk; cases hk
theorem Sat.unpack (h : Sat W w (star A B :: L)) : Sat W w (A :: B :: L) := h.conv fun _ => star_assoc.1
theorem Sat.pack (h : Sat W w (A :: B :: L)) : Sat W w (star A B :: L) := h.conv fun _ => star_assoc.2
theorem Sat.ex {α : Type} {A : α → Res} (h : Sat W w (sex A :: L)) : ∃ x, Sat W w (A x :: L) := by
  obtain ⟨y, ⟨a, b, hd, he, ⟨x, ha⟩, hb⟩, hy⟩ := h.own
  exact ⟨x, h.below, h.dr, y, ⟨a, b, hd, he, ha, hb⟩, hy⟩
theorem Sat.unex {α : Type} {A : α → Res} (x : α) (h : Sat W w (A x :: L)) : Sat W w (sex A :: L) := h.imp fun _ ha => ⟨x, ha⟩
theorem Sat.pur {p : Prop} (h : Sat W w (pur p :: L)) : p ∧ Sat W w L := by
  obtain ⟨y, ⟨a, b, hd, he, ⟨hp, _⟩, hb⟩, hy⟩ := h.own
  exact ⟨hp, h.tail⟩
theorem Sat.unpur {p : Prop} (hp : p) (h : Sat W w L) : Sat W w (Go.Proofs.Ytnfbjidpiglabaa.pur p :: L) :=
  h.conv fun x hx => ⟨fun _ => none, x, fun _ => .inl rfl, by funext k; simp [PH.un], ⟨hp, fun _ => rfl⟩, hx⟩
theorem Sat.emp_ (h : Sat W w L) : Sat W w (emp :: L) :=
  h.conv fun x hx => ⟨fun _ => none, x, fun _ => .inl rfl, by funext k; simp [PH.un], fun _ => rfl, hx⟩
theorem Sat.read {k : Nat} {o : Obj} (h : Sat W w (blk k o :: L)) : W.heap.size ≤ k ∧ w.heap[k]? = some o := by
  obtain ⟨y, ⟨a, b, hd, rfl, ha, hb⟩, hy⟩ := h.own
  refine hy k o ?_
  rw [ha]
  simp [PH.un]
theorem Sat.cell {k : Nat} {cs : Array Value} {T : TypeId} {m : Nat × Nat} (h : Sat W w (blk k (.cells cs T m) :: L)) (j : Nat) : w.cell? ⟨k, j, none⟩ = cs[j]? := by
  simp [World.cell?, h.read.2]
theorem Sat.frozen {k : Nat} {cs : Array Value} {T : TypeId} (h : Sat W w (blk k (.cells cs T (0, 0)) :: L)) (j : Nat) : w.frozen? ⟨k, j, none⟩ = false := by
  simp [World.frozen?, h.read.2]
theorem Sat.drew (h : Sat W w L) : Sat W w.drew L := ⟨h.below.drew, Nat.le_succ_of_le h.dr, h.own⟩
/-- A new block. -/
theorem Sat.alloc (h : Sat W w L) (o : Obj) : Sat W (w.alloc o) (blk w.heap.size o :: L) := by
  obtain ⟨x, hx, hy⟩ := h.own
  refine ⟨h.below.alloc h.below.size o, h.dr, PH.un (fun j => if j = w.heap.size then some o else none) x, ⟨_, _, fun k => ?_, rfl, rfl, hx⟩, fun k o' hk => ?_⟩
  · by_cases e : k = w.heap.size
    · right
      cases hxk : x k with
      | none => rfl
      | some o' =>
        have := (hy k o' hxk).2
        rw [e, Array.getElem?_eq_none (Nat.le_refl _)] at this
        cases this
    · left; simp [e]
  · by_cases e : k = w.heap.size
    · subst e
      simp only [PH.un, if_true, Option.some_or, Option.some.injEq] at hk
      subst hk
      exact ⟨h.below.size, heap_alloc_new w o⟩
    · simp only [PH.un, e, if_false, Option.none_or] at hk
      obtain ⟨h1, h2⟩ := hy k o' hk
      exact ⟨h1, (Below.heap_alloc w o k (Array.getElem?_eq_some_iff.1 h2).1).trans h2⟩
/-- One block that is owned has turned, nothing else. -/
theorem Sat.turn {k : Nat} {o o' : Obj} (h : Sat W w (blk k o :: L)) (hos : w'.os = w.os) (ht : w'.tape = w.tape) (hout : w'.output = w.output) (hs : w'.heap.size = w.heap.size)
    (hk : w'.heap[k]? = some o') (hj : ∀ j, j ≠ k → w'.heap[j]? = w.heap[j]?) (hdr : w.drawn ≤ w'.drawn := by exact Nat.le_refl _) : Sat W w' (blk k o' :: L) := by
  have hr := h.read
  obtain ⟨y, ⟨a, b, hd, rfl, ha, hb⟩, hy⟩ := h.own
  refine ⟨h.below.trans ⟨hos, ht, hout, by omega, fun j hjk => hj j (by omega)⟩, Nat.le_trans h.dr hdr, PH.un (fun j => if j = k then some o' else none) b, ⟨_, _, fun j => ?_, rfl, rfl, hb⟩, fun j p hp => ?_⟩
  · rcases hd j with h' | h'
    · left
      rw [ha] at h'
      by_cases e : j = k
      · simp [e] at h'
      · simp [e]
    · exact .inr h'
  · by_cases e : j = k
    · subst e
      simp only [PH.un, if_true, Option.some_or, Option.some.injEq] at hp
      subst hp
      exact ⟨hr.1, hk⟩
    · simp only [PH.un, e, if_false, Option.none_or] at hp
      rw [hj j e]
      exact hy j p (by rw [ha]; simp [PH.un, e, hp])
theorem heap_setCell_cells {w : World} {k : Nat} {cs : Array Value} {T : TypeId} {m : Nat × Nat} (h : w.heap[k]? = some (.cells cs T m)) (j : Nat) (v : Value) :
    (w.setCell ⟨k, j, none⟩ v).heap[k]? = some (.cells (cs.setIfInBounds j v) T m) := by
  simp [World.setCell, Array.getElem?_modify, h]
theorem Sat.setCell {k : Nat} {cs : Array Value} {T : TypeId} {m : Nat × Nat} (h : Sat W w (blk k (.cells cs T m) :: L)) (j : Nat) (v : Value) :
    Sat W (w.setCell ⟨k, j, none⟩ v) (blk k (.cells (cs.setIfInBounds j v) T m) :: L) :=
  h.turn rfl rfl rfl (by simp [World.setCell]) (heap_setCell_cells h.read.2 j v) (fun i hi => Below.heap_setCell _ _ _ _ hi)
/-- The resources that are written are turned into others in new blocks or the same ones: what a law of the kit says of one row ('grownBy'). -/
theorem Sat.grown {g : Nat} {o o' : Obj} {g' : Nat} (h : Sat W w (blk g o :: L)) (hg : w.grownBy w' (some g)) (hdr : w.drawn ≤ w'.drawn) (ho : w'.heap[g']? = some o') (hw : g' = g ∨ w.heap.size ≤ g') : Sat W w' (blk g' o' :: L) := by
  have hr := h.read
  obtain ⟨y, ⟨a, b, hd, rfl, ha, hb⟩, hy⟩ := h.own
  have hgl : g < w.heap.size := (Array.getElem?_eq_some_iff.1 hr.2).1
  have hnb : ∀ k o, b k = some o → k ≠ g ∧ k < w.heap.size ∧ w.heap[k]? = some o ∧ W.heap.size ≤ k := fun k p hk => by
    have h1 := hy k p (by
      rcases hd k with h' | h'
      · simp [PH.un, h', hk]
      · rw [h'] at hk; cases hk)
    refine ⟨fun e => ?_, (Array.getElem?_eq_some_iff.1 h1.2).1, h1.2, h1.1⟩
    subst e
    rcases hd k with h' | h'
    · rw [ha] at h'; simp at h'
    · rw [h'] at hk; cases hk
  refine ⟨h.below.grown hg h.below.size (fun k hk => by cases hk; exact hr.1), Nat.le_trans h.dr hdr, PH.un (fun j => if j = g' then some o' else none) b, ⟨_, _, fun j => ?_, rfl, rfl, hb⟩, fun j p hp => ?_⟩
  · by_cases e : j = g'
    · right
      cases hbj : b j with
      | none => rfl
      | some p =>
        obtain ⟨h1, h2, _, _⟩ := hnb j p hbj
        rcases hw with rfl | hw
        · exact absurd e h1
        · omega
    · left; simp [e]
  · by_cases e : j = g'
    · subst e
      simp only [PH.un, if_true, Option.some_or, Option.some.injEq] at hp
      subst hp
      refine ⟨?_, ho⟩
      rcases hw with rfl | hw
      · exact hr.1
      · have := h.below.size; omega
    · simp only [PH.un, e, if_false, Option.none_or] at hp
      obtain ⟨h1, h2, h3, h4⟩ := hnb j p hp
      exact ⟨h4, (hg.block j h2 (by simpa using h1)).trans h3⟩
theorem Sat.grown0 {o' : Obj} {g' : Nat} (h : Sat W w L) (hg : w.grownBy w' none) (hdr : w.drawn ≤ w'.drawn) (ho : w'.heap[g']? = some o') (hw : w.heap.size ≤ g') : Sat W w' (blk g' o' :: L) := by
  obtain ⟨b, hb, hy⟩ := h.own
  refine ⟨h.below.grown hg h.below.size (fun k hk => by cases hk), Nat.le_trans h.dr hdr, PH.un (fun j => if j = g' then some o' else none) b, ⟨_, _, fun j => ?_, rfl, rfl, hb⟩, fun j p hp => ?_⟩
  · by_cases e : j = g'
    · right
      cases hbj : b j with
      | none => rfl
      | some p =>
        have := (Array.getElem?_eq_some_iff.1 (hy j p hbj).2).1
        omega
    · left; simp [e]
  · by_cases e : j = g'
    · subst e
      simp only [PH.un, if_true, Option.some_or, Option.some.injEq] at hp
      subst hp
      exact ⟨Nat.le_trans h.below.size hw, ho⟩
    · simp only [PH.un, e, if_false, Option.none_or] at hp
      obtain ⟨h1, h2⟩ := hy j p hp
      exact ⟨h1, (hg.block j (Array.getElem?_eq_some_iff.1 h2).1 (by simp)).trans h2⟩
/-- Nothing that was there has turned; there may be new blocks. -/
theorem Sat.more (h : Sat W w L) (hb : Below w.heap.size w w') (hdr : w.drawn ≤ w'.drawn := by exact Nat.le_refl _) : Sat W w' L := by
  obtain ⟨b, hb', hy⟩ := h.own
  exact ⟨h.below.trans (hb.mono h.below.size), Nat.le_trans h.dr hdr, b, hb', fun k o hk => ⟨(hy k o hk).1, (hb.block k (Array.getElem?_eq_some_iff.1 (hy k o hk).2).1).trans (hy k o hk).2⟩⟩
end
end
section
set_option linter.unusedVariables false
set_option linter.unusedSimpArgs false
open Go.RowKit
abbrev Fr := List (Nat × Value)
def lk : Fr → Nat → Option Value
  | [], _ => none
  | (d, v) :: l, t => bif Nat.beq d t then some v else lk l t
/-- Of a frame: how many slots, in which round of which loop, which calls are deferred. -/
structure FN where
  n : Nat
  ro : Option Nat := none
  df : List Deferred := []
instance : Coe FN Nat := ⟨FN.n⟩
def fen (ro : Option Nat) : Fence := { fn := fun _ => True, depth := none, alive := false, round := ro }
structure Know (a : Act) (N : FN) (l : Fr) : Prop where
  size : a.tmps.size = N.n
  dfr : a.defers = N.df
  val : ∀ t v, lk l t = some v → a.tmps.getD t undef = v
def opv (l : Fr) : Operand → Option Value
  | .tmp t => lk l t
  | .const v => some v
  | .global g => some (.pointer (some ⟨g, 0, none⟩))
  | .func f => some (.func (.func f) #[] #[])
section
variable {P : Program} {N : FN} {l : Fr} {a : Act} {W w : World} {L : List Res}
theorem Know.eval (K : Know a N l) {x : Operand} {v : Value} (h : opv l x = some v) : a.eval x = v := by
  cases x with
  | tmp t => exact K.val t v h
  | const u => simpa [opv, Act.eval] using h
  | global g => simpa [opv, Act.eval] using h
  | func f => simpa [opv, Act.eval] using h
theorem lk_cons (d t : Nat) (v : Value) (l : Fr) : lk ((d, v) :: l) t = if d = t then some v else lk l t := by
  by_cases h : d = t
  · simp [lk, h]
  · have : Nat.beq d t = false := by
      cases hb : Nat.beq d t with
      | false => rfl
      | true => exact absurd (Nat.eq_of_beq_eq_true hb) h
    simp [lk, this, h]
theorem Know.put (K : Know a N l) {d : Nat} (hd : Nat.ble (d + 1) N = true) (v : Value) : Know (a.put (some d) v) N ((d, v) :: l) := by
  have hd' : d < a.tmps.size := by rw [K.size]; exact Nat.le_of_ble_eq_true hd
  refine ⟨by simp [Act.put, K.size], K.dfr, fun t u ht => ?_⟩
  rw [lk_cons] at ht
  by_cases e : d = t
  · subst e
    simp only [if_true, Option.some.injEq] at ht
    subst ht
    simp [Act.put, hd']
  · rw [if_neg e] at ht
    rw [← K.val t u ht]
    simp only [Act.put, Array.getD_eq_getD_getElem?]
    rw [Array.getElem?_setIfInBounds_ne e]
theorem Know.none (K : Know a N l) (v : Value) : Know (a.put none v) N l := K
/-- Less is known. -/
theorem Know.sub {l' : Fr} (K : Know a N l) (h : ∀ t v, lk l' t = some v → lk l t = some v) : Know a N l' := ⟨K.size, K.dfr, fun t v ht => K.val t v (h t v ht)⟩
end
def WL (P : Program) (ops : Array Oper) (Q : Exit → Act → World → Prop) (rest : List Oper) (N : FN) (l : Fr) (W : World) (L : List Res) : Prop :=
  ∀ a w, Know a N l → Sat W w L → wpListIn (fen N.ro) 0 P ops Q rest a w
def WC (P : Program) (c : Code) (Q : Exit → Act → World → Prop) (N : FN) (l : Fr) (W : World) (L : List Res) : Prop :=
  ∀ a w, Know a N l → Sat W w L → c.wpIn (fen N.ro) 0 P Q a w
def WQ (Q : Exit → Act → World → Prop) (e : Exit) (N : FN) (l : Fr) (W : World) (L : List Res) : Prop :=
  ∀ a w, Know a N l → Sat W w L → Q e a w
/-- A call: what it answers, what it leaves. -/
def CS (P : Program) (f : FuncId) (args : Array Value) (W : World) (L : List Res) (post : Value → List Res → Prop) : Prop :=
  ∀ w, Sat W w L → Calls P f args w fun e w' => ∃ v L', e = .returned v ∧ post v L' ∧ Sat W w' L'
section
variable {P : Program} {N : FN} {l : Fr} {W : World} {L L' : List Res} {Q : Exit → Act → World → Prop} {ops : Array Oper} {rest : List Oper}
theorem c_seq {x y : Code} (h : WC P x (Exit.then (y.wpIn (fen N.ro) 0 P Q) Q) N l W L) : WC P (.seq x y) Q N l W L := fun a w K S => wpIn_seq (h a w K S)
theorem c_skip (h : WQ Q .normal N l W L) : WC P .skip Q N l W L := fun a w K S => wpIn_skip (h a w K S)
theorem c_ret (h : WQ Q .ret N l W L) : WC P .ret Q N l W L := fun a w K S => wpIn_ret (h a w K S)
theorem c_exit {id : Nat} (h : WQ Q (.exit id) N l W L) : WC P (.exit id) Q N l W L := fun a w K S => wpIn_exit (h a w K S)
theorem c_block {id : Nat} {c : Code} (h : WC P c (Exit.inBlock id Q) N l W L) : WC P (.block id c) Q N l W L := fun a w K S => wpIn_block (h a w K S)
theorem c_true {x : Operand} {t e : Code} (hx : opv l x = some (.bool true)) (h : WC P t Q N l W L) : WC P (.cond x t e) Q N l W L := fun a w K S => wpIn_cond_true (K.eval hx) (h a w K S)
theorem c_false {x : Operand} {t e : Code} (hx : opv l x = some (.bool false)) (h : WC P e Q N l W L) : WC P (.cond x t e) Q N l W L := fun a w K S => wpIn_cond_false (K.eval hx) (h a w K S)
theorem c_cond {x : Operand} {t e : Code} {b : Bool} (hx : opv l x = some (.bool b)) (ht : b = true → WC P t Q N l W L) (he : b = false → WC P e Q N l W L) : WC P (.cond x t e) Q N l W L :=
  fun a w K S => wpIn_cond_split (K.eval hx) (fun hb => ht hb a w K S) (fun hb => he hb a w K S)
theorem c_region {id : Nat} {ops : List Oper} (h : WL P ops.toArray Q ops N l W L) : WC P (.region id ops.toArray false) Q N l W L := fun a w K S => wpIn_region_lit (h a w K S)
theorem l_nil (h : WQ Q .normal N l W L) : WL P ops Q [] N l W L := fun a w K S => wpListIn_nil (h a w K S)
/-- The exits' ways. -/
theorem q_then {c : Code} (h : WC P c Q N l W L) : WQ (Exit.then (c.wpIn (fen N.ro) 0 P Q) Q) .normal N l W L := fun a w K S => h a w K S
theorem q_pass_exit {n : Act → World → Prop} {id : Nat} (h : WQ Q (.exit id) N l W L) : WQ (Exit.then n Q) (.exit id) N l W L := fun a w K S => h a w K S
theorem q_pass_ret {n : Act → World → Prop} (h : WQ Q .ret N l W L) : WQ (Exit.then n Q) .ret N l W L := fun a w K S => h a w K S
theorem q_block {id : Nat} (h : WQ Q .normal N l W L) : WQ (Exit.inBlock id Q) .normal N l W L := fun a w K S => h a w K S
theorem q_hit {id : Nat} (h : WQ Q .normal N l W L) : WQ (Exit.inBlock id Q) (.exit id) N l W L := fun a w K S => by
  simp only [Exit.inBlock, if_true]; exact h a w K S
theorem q_block_ret {id : Nat} (h : WQ Q .ret N l W L) : WQ (Exit.inBlock id Q) .ret N l W L := fun a w K S => h a w K S
theorem l_conv (hc : ∀ w, Sat W w L → Sat W w L') (h : WL P ops Q rest N l W L') : WL P ops Q rest N l W L := fun a w K S => h a w K (hc w S)
theorem c_conv {c : Code} (hc : ∀ w, Sat W w L → Sat W w L') (h : WC P c Q N l W L') : WC P c Q N l W L := fun a w K S => h a w K (hc w S)
theorem l_fact {p : Prop} (hc : ∀ w, Sat W w L → p) (h : p → WL P ops Q rest N l W L) : WL P ops Q rest N l W L := fun a w K S => h (hc w S) a w K S
theorem c_fact {c : Code} {p : Prop} (hc : ∀ w, Sat W w L → p) (h : p → WC P c Q N l W L) : WC P c Q N l W L := fun a w K S => h (hc w S) a w K S
theorem q_conv {e : Exit} (hc : ∀ w, Sat W w L → Sat W w L') (h : WQ Q e N l W L') : WQ Q e N l W L := fun a w K S => h a w K (hc w S)
/-- A slot's value is spelt otherwise. -/
theorem l_eq {t : Nat} {v v' : Value} (hx : lk l t = some v) (e : v = v') (h : WL P ops Q rest N ((t, v') :: l) W L) : WL P ops Q rest N l W L := fun a w K S =>
  h a w (K.sub (a := a) (l' := (t, v') :: l) (fun s u hs => by
    rw [lk_cons] at hs
    split at hs
    · rename_i hts; subst hts; subst e; rw [hx]; exact hs
    · exact hs)) S
theorem c_eq {c : Code} {t : Nat} {v v' : Value} (hx : lk l t = some v) (e : v = v') (h : WC P c Q N ((t, v') :: l) W L) : WC P c Q N l W L := fun a w K S =>
  h a w (K.sub (l' := (t, v') :: l) (fun s u hs => by
    rw [lk_cons] at hs
    split at hs
    · rename_i hts; subst hts; subst e; rw [hx]; exact hs
    · exact hs)) S
/-- Only what is listed is kept. -/
def subk : Fr → Fr → Prop
  | [], _ => True
  | (t, v) :: l', l => lk l t = some v ∧ subk l' l
theorem subk_lk : ∀ {l' l : Fr}, subk l' l → ∀ t v, lk l' t = some v → lk l t = some v
  | [], _, _, t, v, h => by cases h
  | (s, u) :: l', l, h, t, v, ht => by
    rw [lk_cons] at ht
    split at ht
    · rename_i e; subst e; rw [h.1]; exact ht
    · exact subk_lk h.2 t v ht
theorem c_loop {c : Code} {α : Type} (l' : α → Fr) (L' : α → List Res) (p : α → Prop) (μ : α → Nat) (x0 : α) (h0 : p x0) (hl : subk (l' x0) l) (hL : ∀ w, Sat W w L → Sat W w (L' x0))
    (round : ∀ x, p x → WC P c (Exit.then (fun a w => ∃ y, p y ∧ μ y < μ x ∧ Know a N (l' y) ∧ Sat W w (L' y)) Q) N (l' x) W (L' x)) : WC P (.loop c) Q N l W L := fun a w K S => by
  intro b k cs hro hb hr
  have key : ∀ n x a w, μ x = n → p x → Know a N (l' x) → Sat W w (L' x) →
      ∃ e a' w', Q e a' w' ∧ ArrivesIn (Machine.fenced P (fen N.ro)) P (lone (b.atR a (.code c :: .inLoop c :: k)) cs w) b k cs e a' w' := by
    intro n
    induction n using Nat.strongRecOn with
    | _ n ih =>
      intro x a w hn hp K S
      obtain ⟨e, a₁, w₁, hq, harr⟩ := round x hp a w K S b (.inLoop c :: k) cs hro hb hr
      cases e with
      | normal =>
        obtain ⟨y, hy, hlt, Ky, Sy⟩ := hq
        obtain ⟨e₂, a₂, w₂, hq₂, harr₂⟩ := ih (μ y) (hn ▸ hlt) y a₁ w₁ rfl hy Ky Sy
        exact ⟨e₂, a₂, w₂, hq₂, .of_steps (StepsIn.trans harr (.one (fenced_calm hb hr rfl) stepR_inLoop)) harr₂⟩
      | exit id => exact ⟨_, a₁, w₁, hq, .pass (x := .inLoop c) rfl (fun _ _ => .inl (by simp)) harr⟩
      | goto l => exact ⟨_, a₁, w₁, hq, .pass (x := .inLoop c) rfl (fun _ _ => .inl (by simp)) harr⟩
      | ret => exact ⟨_, a₁, w₁, hq, .pass (x := .inLoop c) rfl (fun _ _ => .inl (by simp)) harr⟩
      | panic ch => exact ⟨_, a₁, w₁, hq, .pass (x := .inLoop c) rfl (fun _ _ => .inl (by simp)) harr⟩
      | outgrown => exact ⟨_, a₁, w₁, hq, .pass (x := .inLoop c) rfl (fun _ _ => .inl (by simp)) harr⟩
  obtain ⟨e, a', w', hq, harr⟩ := key _ x0 a w rfl h0 (K.sub (subk_lk hl)) (hL w S)
  exact ⟨e, a', w', hq, .of_steps (.one (fenced_calm hb hr rfl) stepR_loop) harr⟩
theorem q_round {α : Type} {l' : α → Fr} {L' : α → List Res} {p : α → Prop} {μ : α → Nat} {n : Nat} (y : α) (hp : p y) (hm : μ y < n) (hl : subk (l' y) l) (hL : ∀ w, Sat W w L → Sat W w (L' y)) :
    WQ (Exit.then (fun a w => ∃ y, p y ∧ μ y < n ∧ Know a N (l' y) ∧ Sat W w (L' y)) Q) .normal N l W L := fun _ w K S => ⟨y, hp, hm, K.sub (subk_lk hl), hL w S⟩
abbrev postC (P : Program) (fn : Func) (W : World) (post : Value → List Res → Prop) : Exit → Act → World → Prop :=
  bodyPostM Fence.wide 0 P fn fun e w' => ∃ v L', e = .returned v ∧ post v L' ∧ Sat W w' L'
theorem f_enter {f : FuncId} {fn : Func} {c : Code} {args : Array Value} {post : Value → List Res → Prop} (hf : P.funcs[f]? = some fn) (hb : fn.body = some c) (l0 : Fr)
    (hl : ∀ a : Act, a.tmps = args ++ Array.replicate (fn.ntmps - args.size) undef → a.defers = [] → Know a { n := fn.ntmps } l0)
    (h : WC P c (postC P fn W post) { n := fn.ntmps } l0 W L) : CS P f args W L post := fun w S =>
  callsIn_wide.1 (callsIn_of_wp_marks hf hb trivial (h _ w (hl _ rfl rfl) S))
theorem f_ret {fn : Func} {post : Value → List Res → Prop} {v : Value} (hr : ∀ a w, Know a N l → Sat W w L → (results fn a.tmps).run P w = .ok v w) (hp : post v L') (hL : ∀ w, Sat W w L → Sat W w L') (hdf : N.df = [] := by rfl) :
    WQ (postC P fn W post) .ret N l W L := fun a w K S => by
  show LeavesInM Fence.wide 0 P fn a.tmps _ a.defers .returning w
  rw [K.dfr, hdf]
  exact ⟨v, hr a w K S, v, L', rfl, hp, hL w S⟩
theorem f_end {fn : Func} {post : Value → List Res → Prop} {v : Value} (hr : ∀ a w, Know a N l → Sat W w L → (results fn a.tmps).run P w = .ok v w) (hp : post v L') (hL : ∀ w, Sat W w L → Sat W w L') (hdf : N.df = [] := by rfl) :
    WQ (postC P fn W post) .normal N l W L := fun a w K S => by
  show LeavesInM Fence.wide 0 P fn a.tmps _ a.defers .returning w
  rw [K.dfr, hdf]
  exact ⟨v, hr a w K S, v, L', rfl, hp, hL w S⟩
/-- A block that is no cells has turned. -/
theorem Sat.putObj {w : World} {k : Nat} {o o' : Obj} (S : Sat W w (blk k o :: L)) : Sat W (w.putObj k o') (blk k o' :: L) := by
  have hr := S.read.2
  exact S.turn rfl rfl rfl (by simp [World.putObj]) (World.putObj_heap_same (Array.getElem?_eq_some_iff.1 hr).1) (fun j hj => World.putObj_heap_other hj)
abbrev markD (r : Nat) : Deferred := { target := .collected r, args := #[] }
theorem r_none {fn : Func} (h : fn.results = #[]) : ∀ a w, Know a N l → Sat W w L → (results fn a.tmps).run P w = .ok (.tuple #[]) w := fun a w _ _ => results_none h a.tmps P w
theorem r_one {fn : Func} {t : Nat} {v : Value} (h : fn.results = #[.tmp t]) (hv : lk l t = some v) : ∀ a w, Know a N l → Sat W w L → (results fn a.tmps).run P w = .ok v w := fun a w K _ => by
  rw [results_tmp h, K.val t v hv]
theorem r_two {fn : Func} {t u : Nat} {v x : Value} (h : fn.results = #[.tmp t, .tmp u]) (hv : lk l t = some v) (hx : lk l u = some x) : ∀ a w, Know a N l → Sat W w L → (results fn a.tmps).run P w = .ok (.tuple #[v, x]) w := fun a w K _ => by
  rw [results_tmp2 h, K.val t v hv, K.val u x hx]
theorem CS.mono {f : FuncId} {args : Array Value} {post post' : Value → List Res → Prop} (h : CS P f args W L post) (hi : ∀ v L', post v L' → post' v L') : CS P f args W L post' := fun w S =>
  (h w S).mono fun _ _ ⟨v, L', he, hp, hs⟩ => ⟨v, L', he, hi v L' hp, hs⟩
theorem CS.conv {f : FuncId} {args : Array Value} {post : Value → List Res → Prop} (hc : ∀ w, Sat W w L → Sat W w L') (h : CS P f args W L' post) : CS P f args W L post := fun w S => h w (hc w S)
theorem semAt_run {ro : Option Nat} {ρ : Operand → Value} {o : Oper} {w w' : World} {n : Next} (h : (execOp ρ o).run P w = .ok n w') (hn : ∀ d, n ≠ .defer d) : (o.semAt ro ρ).run P w = .ok n w' := by
  cases ro with
  | none => exact h
  | some l =>
    unfold Oper.semAt
    split
    · rename_i c _ hop
      exfalso
      simp only [execOp, hop, Sem.run_bind] at h
      cases hr : (resolve ρ c o.type).run P w with
      | ok d w1 =>
        rw [hr] at h
        simp only [Result.andThen_ok, Sem.run_pure, Result.ok.injEq] at h
        exact hn _ h.1.symm
      | halt x w1 =>
        rw [hr] at h
        cases h
    · exact h
theorem wpIn_of_run {ro : Option Nat} {o : Oper} {a : Act} {w w' : World} {n : Next} {next : Act → World → Prop} {Q : Exit → Act → World → Prop} (h : (execOp a.eval o).run P w = .ok n w') (hn : ∀ d, n ≠ .defer d)
    (hu : o.uponIn (fen ro) 0 P a next Q (.ok n w')) : o.wpIn (fen ro) 0 P a w next Q := ⟨fun _ _ => trivial, by
  show o.uponIn (fen ro) 0 P a next Q ((o.semAt ro a.eval).run P w)
  rw [semAt_run h hn]; exact hu⟩
theorem o_run {d : Nat} {op : Op} {ty : TypeId} {pos : String} {af : Array Edge} {v : Value} (hd : Nat.ble (d + 1) N = true)
    (hr : ∀ a w, Know a N l → Sat W w L → ∃ w', (execOp a.eval ⟨some d, op, ty, pos, af, none⟩).run P w = .ok (.value v) w' ∧ Sat W w' L')
    (h : WL P ops Q rest N ((d, v) :: l) W L') : WL P ops Q (⟨some d, op, ty, pos, af, none⟩ :: rest) N l W L := fun a w K S => by
  obtain ⟨w', h1, h2⟩ := hr a w K S
  refine wpListIn_plain rfl fun k hk => wpIn_of_run h1 (by simp) ?_
  exact hk _ _ (h _ _ (K.put hd v) h2)
theorem o_val {d : Nat} {op : Op} {ty : TypeId} {pos : String} {af : Array Edge} {v : Value} (hd : Nat.ble (d + 1) N = true)
    (hr : ∀ a w, Know a N l → Sat W w L → (execOp a.eval ⟨some d, op, ty, pos, af, none⟩).run P w = .ok (.value v) w)
    (h : WL P ops Q rest N ((d, v) :: l) W L) : WL P ops Q (⟨some d, op, ty, pos, af, none⟩ :: rest) N l W L :=
  o_run hd (fun a w K S => ⟨w, hr a w K S, S⟩) h
theorem o_skip {op : Op} {ty : TypeId} {pos : String} {af : Array Edge}
    (hr : ∀ a w, Know a N l → Sat W w L → ∃ w', (execOp a.eval ⟨none, op, ty, pos, af, none⟩).run P w = .ok .skip w' ∧ Sat W w' L')
    (h : WL P ops Q rest N l W L') : WL P ops Q (⟨none, op, ty, pos, af, none⟩ :: rest) N l W L := fun a w K S => by
  obtain ⟨w', h1, h2⟩ := hr a w K S
  refine wpListIn_plain rfl fun k hk => wpIn_of_run h1 (by simp) ?_
  exact hk _ _ (h _ _ (K.none _) h2)
/-- A guarded operation that is carried out, or isn't. -/
theorem o_yes {dst : Option Tmp} {op : Op} {ty : TypeId} {pos : String} {af : Array Edge} {j d : Nat} {b : Bool} (hj : (ops[j]?).bind (·.dst) = some d) (hv : lk l d = some (.bool b)) (hd : Nat.ble (d + 1) N = true)
    (h : WL P ops Q (⟨dst, op, ty, pos, af, none⟩ :: rest) N l W L) : WL P ops Q (⟨dst, op, ty, pos, af, some (j, b)⟩ :: rest) N l W L := fun a w K S => by
  have hd' : d < a.tmps.size := by rw [K.size]; exact Nat.le_of_ble_eq_true hd
  have hy : yielded ops a.tmps j = some b := by
    have := K.val d _ hv
    simp only [yielded, hj, Option.bind_some]
    rw [Array.getD_eq_getD_getElem?, Array.getElem?_eq_getElem hd'] at this
    rw [Array.getElem?_eq_getElem hd']
    simp only [Option.getD_some] at this
    rw [this]
  have h1 := h a w K S
  unfold wpListIn at h1 ⊢
  rw [if_pos (by simp [Region.wanted])] at h1
  rw [if_pos (by simp [Region.wanted, hy])]
  exact h1
theorem o_no {d0 : Nat} {op : Op} {ty : TypeId} {pos : String} {af : Array Edge} {j d : Nat} {b : Bool} {v : Value} (hj : (ops[j]?).bind (·.dst) = some d) (hv : lk l d = some v) (hb : (match v with | .bool c => c == b | _ => false) = false) (hd : Nat.ble (d0 + 1) N = true)
    (h : WL P ops Q rest N ((d0, undef) :: l) W L) : WL P ops Q (⟨some d0, op, ty, pos, af, some (j, b)⟩ :: rest) N l W L := fun a w K S => by
  have hy : yielded ops a.tmps j ≠ some b := by
    have := K.val d _ hv
    simp only [yielded, hj, Option.bind_some]
    rw [Array.getD_eq_getD_getElem?] at this
    cases hg : a.tmps[d]? with
    | none => simp
    | some u =>
      rw [hg] at this
      simp only [Option.getD_some] at this
      subst this
      cases u <;> simp
      intro e
      subst e
      simp at hb
  unfold wpListIn
  rw [if_neg (by simp [Region.wanted, hy])]
  exact ⟨fun _ _ => trivial, h _ _ (K.put hd _) S⟩
end
end
section
set_option linter.unusedVariables false
set_option linter.unusedSimpArgs false
open Go.RowKit
/-- A type's row of the table. -/
def TI (P : Program) (t : TypeId) (z : Value) (size bytes : Nat) : Prop := (P.info? t).map (fun i => (i.zero, i.size, i.bytes)) = some (some z, size, bytes)
theorem TI.get {P : Program} {t : TypeId} {z : Value} {size bytes : Nat} (h : TI P t z size bytes) : ∃ i, P.info? t = some i ∧ i.zero = some z ∧ i.size = size ∧ i.bytes = bytes := by
  obtain ⟨i, hi, he⟩ := Option.map_eq_some_iff.1 h
  simp only [Prod.mk.injEq] at he
  exact ⟨i, hi, he.1, he.2.1, he.2.2⟩
def aggD : TypeDesc → Bool
  | .struct _ => true
  | .array _ _ => true
  | _ => false
theorem run_isAgg {P : Program} {t : TypeId} {d : TypeDesc} (h : P.underlying t = some d) (w : World) : (isAgg t).run P w = .ok (aggD d) w := by
  cases d <;> simp [isAgg, run_underlying h, aggD]
theorem run_sizeOf' {P : Program} {t : TypeId} {z : Value} {s b : Nat} (h : TI P t z s b) (w : World) : (sizeOf t).run P w = .ok s w := by
  obtain ⟨i, hi, _, hs, _⟩ := h.get
  simp [sizeOf, typeInfo, hi, hs]
theorem run_zeroValue' {P : Program} {t : TypeId} {z : Value} {s b : Nat} (h : TI P t z s b) (w : World) : (zeroValue t).run P w = .ok z w := by
  obtain ⟨i, hi, hz, _, _⟩ := h.get
  simp [zeroValue, typeInfo, hi, hz]
theorem Addr.add_add' (a : Addr) (i j : Nat) : (a.add i).add j = a.add (i + j) := by
  by_cases hi : i = 0
  · subst hi; simp [Addr.add]
  · by_cases hj : j = 0
    · subst hj; simp [Addr.add]
    · simp [Addr.add, hi, hj, Nat.add_assoc]
def BinV (P : Program) (op : BinOp) (t : TypeId) (x y : Operand) (a b r : Value) : Prop := ∀ w, (do eqGuard op t x y a b; binOp op t a b : Sem Value).run P w = .ok r w
section
variable {P : Program} {t : TypeId} {x y : Operand} {k : IntKind} {m n r : Int}
theorem b_add (h : k.wrap (m + n) = r) : BinV P .add t x y (.int k m) (.int k n) (.int k r) := fun w => by simp [eqGuard, binOp, Op.intArith, h]
theorem b_sub (h : k.wrap (m - n) = r) : BinV P .sub t x y (.int k m) (.int k n) (.int k r) := fun w => by simp [eqGuard, binOp, Op.intArith, h]
theorem b_mul (h : k.wrap (m * n) = r) : BinV P .mul t x y (.int k m) (.int k n) (.int k r) := fun w => by simp [eqGuard, binOp, Op.intArith, h]
theorem b_rem (h0 : n ≠ 0) (h : m.tmod n = r) : BinV P .rem t x y (.int k m) (.int k n) (.int k r) := fun w => by simp [eqGuard, binOp, Op.intDiv, h0, h]
theorem b_lss : BinV P .lss t x y (.int k m) (.int k n) (.bool (decide (m < n))) := fun w => by simp [eqGuard, binOp, Op.intCmp]
theorem b_leq : BinV P .leq t x y (.int k m) (.int k n) (.bool (decide (m ≤ n))) := fun w => by simp [eqGuard, binOp, Op.intCmp]
theorem b_gtr : BinV P .gtr t x y (.int k m) (.int k n) (.bool (decide (n < m))) := fun w => by simp [eqGuard, binOp, Op.intCmp]
theorem b_geq : BinV P .geq t x y (.int k m) (.int k n) (.bool (decide (n ≤ m))) := fun w => by simp [eqGuard, binOp, Op.intCmp]
theorem b_eql : BinV P .eql t x y (.int k m) (.int k n) (.bool (decide (m = n))) := fun w => by simp [eqGuard, binOp, Op.intCmp]; rfl
theorem b_neq : BinV P .neq t x y (.int k m) (.int k n) (.bool (!decide (m = n))) := fun w => by simp [eqGuard, binOp, Op.intCmp]; rfl
def ibits (op : BinOp) (k : IntKind) (a b : Int) : Int :=
  match op with
  | .and => k.wrap (BitVec.ofInt k.bits a &&& BitVec.ofInt k.bits b).toNat
  | .or => k.wrap (BitVec.ofInt k.bits a ||| BitVec.ofInt k.bits b).toNat
  | .xor => k.wrap (BitVec.ofInt k.bits a ^^^ BitVec.ofInt k.bits b).toNat
  | _ => k.wrap (BitVec.ofInt k.bits a &&& ~~~BitVec.ofInt k.bits b).toNat
theorem b_or (h : ibits .or k m n = r) : BinV P .or t x y (.int k m) (.int k n) (.int k r) := fun w => by subst h; simp [eqGuard, binOp, Op.intBits, ibits]
theorem b_shl {k2 : IntKind} (h0 : 0 ≤ n) (h : k.wrap (m * 2 ^ (min n.toNat k.bits)) = r) : BinV P .shl t x y (.int k m) (.int k2 n) (.int k r) := fun w => by
  subst h; simp [eqGuard, binOp, Op.shift, show ¬ n < 0 by omega]
theorem b_shr {k2 : IntKind} (h0 : 0 ≤ n) (h : m.fdiv (2 ^ (min n.toNat k.bits)) = r) : BinV P .shr t x y (.int k m) (.int k2 n) (.int k r) := fun w => by
  subst h; simp [eqGuard, binOp, Op.shift, show ¬ n < 0 by omega]
end
theorem toList_eq_iff {s u : ByteArray} : (s.toList == u.toList) = decide (s = u) := by
  rw [Bool.eq_iff_iff]
  simp only [beq_iff_eq, decide_eq_true_eq]
  constructor
  · intro h
    have h1 : s.data.toList = u.data.toList := by simpa [ByteArray.toList_eq] using h
    cases s; cases u
    simp at h1
    simpa using h1
  · intro h; rw [h]
section
variable {P : Program} {t : TypeId} {x y : Operand} {s u : ByteArray}
theorem b_seql : BinV P .eql t x y (.string s) (.string u) (.bool (decide (s = u))) := fun w => by simp [eqGuard, binOp, Op.stringOp, toList_eq_iff]
theorem b_sneq : BinV P .neq t x y (.string s) (.string u) (.bool (!decide (s = u))) := fun w => by simp [eqGuard, binOp, Op.stringOp, toList_eq_iff]
def slt (s u : ByteArray) : Bool := Op.bytesLess s.data.toList u.data.toList
theorem b_slss : BinV P .lss t x y (.string s) (.string u) (.bool (slt s u)) := fun w => by simp [eqGuard, binOp, Op.stringOp, slt, ByteArray.toList_eq]
theorem b_sgeq : BinV P .geq t x y (.string s) (.string u) (.bool (!slt s u)) := fun w => by simp [eqGuard, binOp, Op.stringOp, slt, ByteArray.toList_eq]
end
section
variable {P : Program} {t e : TypeId} {x y : Operand}
theorem binV_of {op : BinOp} {a b r : Value} (h : ∀ w, (eqGuard op t x y a b).run P w = .ok () w) (hr : ∀ w, (binOp op t a b).run P w = .ok r w) : BinV P op t x y a b r := fun w => by
  rw [Sem.run_bind, h w]
  exact hr w
theorem pointee_of (ht : P.underlying t = some (.pointer e)) : P.underlying t = some (.pointer (P.pointee t)) := by
  simp [Program.pointee, ht]
theorem b_peq (ht : P.underlying t = some (.pointer e)) (p : Option Addr) : BinV P .eql t x y (.pointer p) (.pointer none) (.bool p.isNone) := binV_of (fun w => by simp [eqGuard]) fun w => run_eql_pointer_nil w t p (pointee_of ht)
theorem b_pne (ht : P.underlying t = some (.pointer e)) (p : Option Addr) : BinV P .neq t x y (.pointer p) (.pointer none) (.bool (!p.isNone)) := binV_of (fun w => by simp [eqGuard]) fun w => run_neq_pointer_nil w t p (pointee_of ht)
theorem b_sleq (ht : P.underlying t = some (.slice e)) (p : Option Addr) (n c : Nat) : BinV P .eql t x y (.slice p n c) (.slice none 0 0) (.bool p.isNone) := binV_of (fun w => by simp [eqGuard]) fun w => Lib.run_eql_slice_nil w t e p n c 0 0 ht
theorem b_beq (ht : P.underlying t = some .bool) (a b : Bool) : BinV P .eql t x y (.bool a) (.bool b) (.bool (a == b)) := binV_of (fun w => by simp [eqGuard]) fun w => run_eql_bool w t a b ht
theorem b_bne (ht : P.underlying t = some .bool) (a b : Bool) : BinV P .neq t x y (.bool a) (.bool b) (.bool (!(a == b))) := binV_of (fun w => by simp [eqGuard]) fun w => run_neq_bool w t a b ht
end
def opvs (l : Fr) : List Operand → Option (List Value)
  | [] => some []
  | x :: xs => match opv l x, opvs l xs with
    | some v, some vs => some (v :: vs)
    | _, _ => none
theorem opvs_map {a : Act} {N : FN} {l : Fr} (K : Know a N l) : ∀ {xs : List Operand} {vs : List Value}, opvs l xs = some vs → xs.map a.eval = vs
  | [], vs, h => by simp only [opvs, Option.some.injEq] at h; subst h; rfl
  | x :: xs, vs, h => by
    simp only [opvs] at h
    split at h
    · rename_i v vs' h1 h2
      simp only [Option.some.injEq] at h
      subst h
      simp [K.eval h1, opvs_map K h2]
    · cases h
structure Callable (P : Program) (f : FuncId) : Prop where
  is : ∃ fn, P.funcs[f]? = some fn ∧ fn.body.isNone = false ∧ (fn.name == "runtime.NumGoroutine") = false
section
variable {P : Program} {N : FN} {l : Fr} {W : World} {L L0 : List Res} {Q : Exit → Act → World → Prop} {ops : Array Oper} {rest : List Oper}
variable {d : Nat} {ty : TypeId} {pos : String} {af : Array Edge}
theorem o_runx {α : Type} {op : Op} {vv : α → Value} {LL : α → List Res} (hd : Nat.ble (d + 1) N = true)
    (hr : ∀ a w, Know a N l → Sat W w L → ∃ x w', (execOp a.eval ⟨some d, op, ty, pos, af, none⟩).run P w = .ok (.value (vv x)) w' ∧ Sat W w' (LL x))
    (h : ∀ x, WL P ops Q rest N ((d, vv x) :: l) W (LL x)) : WL P ops Q (⟨some d, op, ty, pos, af, none⟩ :: rest) N l W L := fun a w K S => by
  obtain ⟨x, w', h1, h2⟩ := hr a w K S
  refine wpListIn_plain rfl fun k hk => wpIn_of_run h1 (by simp) ?_
  exact hk _ _ (h x _ _ (K.put hd _) h2)
theorem o_move {x : Operand} {v : Value} (hd : Nat.ble (d + 1) N = true) (hx : opv l x = some v) (h : WL P ops Q rest N ((d, v) :: l) W L) : WL P ops Q (⟨some d, .move x, ty, pos, af, none⟩ :: rest) N l W L :=
  o_val hd (fun a w K _ => by simp [execOp, K.eval hx]) h
theorem o_assign {x : Operand} {v : Value} (hd : Nat.ble (d + 1) N = true) (hx : opv l x = some v) (h : WL P ops Q rest N ((d, v) :: l) W L) : WL P ops Q (⟨some d, .assign x, ty, pos, af, none⟩ :: rest) N l W L :=
  o_val hd (fun a w K _ => by simp [execOp, K.eval hx]) h
theorem o_pick_true {c x y : Operand} {v : Value} (hd : Nat.ble (d + 1) N = true) (hc : opv l c = some (.bool true)) (hx : opv l x = some v) (h : WL P ops Q rest N ((d, v) :: l) W L) :
    WL P ops Q (⟨some d, .pick c x y, ty, pos, af, none⟩ :: rest) N l W L :=
  o_val hd (fun a w K _ => by simp [execOp, K.eval hx, K.eval hc, asBool]) h
theorem o_pick_false {c x y : Operand} {v : Value} (hd : Nat.ble (d + 1) N = true) (hc : opv l c = some (.bool false)) (hy : opv l y = some v) (h : WL P ops Q rest N ((d, v) :: l) W L) :
    WL P ops Q (⟨some d, .pick c x y, ty, pos, af, none⟩ :: rest) N l W L :=
  o_val hd (fun a w K _ => by simp [execOp, K.eval hy, K.eval hc, asBool]) h
theorem o_nil {x : Operand} {p : Addr} (hd : Nat.ble (d + 1) N = true) (hx : opv l x = some (.pointer (some p))) (h : WL P ops Q rest N ((d, .pointer (some p)) :: l) W L) :
    WL P ops Q (⟨some d, .nilCheck x, ty, pos, af, none⟩ :: rest) N l W L :=
  o_val hd (fun a w K _ => by simp [execOp, K.eval hx]) h
theorem o_bin {op : BinOp} {t yt : TypeId} {x y : Operand} {a b r : Value} (hd : Nat.ble (d + 1) N = true) (hx : opv l x = some a) (hy : opv l y = some b) (hr : BinV P op t x y a b r) (h : WL P ops Q rest N ((d, r) :: l) W L) :
    WL P ops Q (⟨some d, .binOp op t x y yt, ty, pos, af, none⟩ :: rest) N l W L :=
  o_val hd (fun a w K _ => by
    have := hr w
    rw [Sem.run_bind] at this
    simp only [execOp, K.eval hx, K.eval hy]
    rw [Sem.run_bind, Sem.run_bind, this]
    rfl) h
theorem o_not {t : TypeId} {x : Operand} {b : Bool} (hd : Nat.ble (d + 1) N = true) (hx : opv l x = some (.bool b)) (h : WL P ops Q rest N ((d, .bool (!b)) :: l) W L) :
    WL P ops Q (⟨some d, .unOp .not t x, ty, pos, af, none⟩ :: rest) N l W L :=
  o_val hd (fun a w K _ => by simp [execOp, K.eval hx, Op.unary]) h
theorem o_int {s t : TypeId} {x : Operand} {k k2 : IntKind} {n r : Int} {sd : TypeDesc} (hd : Nat.ble (d + 1) N = true) (hx : opv l x = some (.int k n)) (hs : P.underlying s = some sd) (ht : P.underlying t = some (.int k2)) (hr : k2.wrap n = r)
    (h : WL P ops Q rest N ((d, .int k2 r) :: l) W L) : WL P ops Q (⟨some d, .convert s t x, ty, pos, af, none⟩ :: rest) N l W L :=
  o_val hd (fun a w K _ => by
    simp only [execOp, K.eval hx, convert]
    cases sd <;> simp [run_underlying hs, run_underlying ht, Conv.intToInt, hr]) h
theorem o_extract {x : Operand} {vs : Array Value} {i : Nat} {v : Value} (hd : Nat.ble (d + 1) N = true) (hx : opv l x = some (.tuple vs)) (hv : vs[i]? = some v) (h : WL P ops Q rest N ((d, v) :: l) W L) :
    WL P ops Q (⟨some d, .extract x i, ty, pos, af, none⟩ :: rest) N l W L :=
  o_val hd (fun a w K _ => by simp [execOp, K.eval hx, Instr.extract, hv]) h
theorem o_fieldAddr {t : TypeId} {x : Operand} {i : Nat} {p q : Addr} {fs : Array Field} {f : Field} {z : Value} {s b : Nat} (hd : Nat.ble (d + 1) N = true) (hx : opv l x = some (.pointer (some p))) (ht : P.underlying t = some (.struct fs)) (hf : fs[i]? = some f)
    (hi : TI P f.type z (s + 1) b) (hp : p.add f.offset = q) (h : WL P ops Q rest N ((d, .pointer (some q)) :: l) W L) :
    WL P ops Q (⟨some d, .fieldAddr t x i, ty, pos, af, none⟩ :: rest) N l W L :=
  o_val hd (fun a w K _ => by simp [execOp, K.eval hx, Instr.fieldAt, run_underlying ht, hf, Instr.sureAddr, fieldPlace, run_sizeOf' hi, hp]) h
theorem o_lenStr {t : TypeId} {x : Operand} {s : ByteArray} (hd : Nat.ble (d + 1) N = true) (hx : opv l x = some (.string s)) (ht : P.underlying t = some .string) (h : WL P ops Q rest N ((d, .int .i64 (s.size : Int)) :: l) W L) :
    WL P ops Q (⟨some d, .call { callee := .builtin .len, args := #[x], argTypes := #[t] }, ty, pos, af, none⟩ :: rest) N l W L :=
  o_val hd (fun a w K _ => by simp [execOp, resolve, invoke, builtin, K.eval hx, Builtin.len_, run_underlying ht, goInt]) h
theorem o_len {t e : TypeId} {x : Operand} {p : Option Addr} {n c : Nat} (hd : Nat.ble (d + 1) N = true) (hx : opv l x = some (.slice p n c)) (ht : P.underlying t = some (.slice e)) (h : WL P ops Q rest N ((d, .int .i64 (n : Int)) :: l) W L) :
    WL P ops Q (⟨some d, .call { callee := .builtin .len, args := #[x], argTypes := #[t] }, ty, pos, af, none⟩ :: rest) N l W L :=
  o_val hd (fun a w K _ => by simp [execOp, resolve, invoke, builtin, K.eval hx, Builtin.len_, run_underlying ht, goInt]) h
theorem o_strIndex {t : TypeId} {x i : Operand} {s : ByteArray} {k : IntKind} {q : Int} {b : UInt8} (hd : Nat.ble (d + 1) N = true) (hx : opv l x = some (.string s)) (hi : opv l i = some (.int k q)) (ht : P.underlying t = some .string) (h0 : 0 ≤ q) (hb : s.data.toList[q.toNat]? = some b)
    (h : WL P ops Q rest N ((d, .int .u8 (b.toNat : Int)) :: l) W L) : WL P ops Q (⟨some d, .index t x i, ty, pos, af, none⟩ :: rest) N l W L :=
  o_val hd (fun a w K _ => by
    have hlt : q.toNat < s.size := by
      have := (List.getElem?_eq_some_iff.1 hb).1
      simpa using this
    have hg : s[q.toNat]? = some b := by
      rw [getElem?_pos s q.toNat hlt]
      have := (List.getElem?_eq_some_iff.1 hb).2
      simp only [Array.getElem_toList] at this
      rw [← this]
      rfl
    simp [execOp, K.eval hx, K.eval hi, Instr.index, asIntOf, run_underlying ht, h0, hg]) h
theorem o_max {t : TypeId} {x y : Operand} {k : IntKind} {m n : Int} {td : TypeDesc} (hd : Nat.ble (d + 1) N = true) (hx : opv l x = some (.int k m)) (hy : opv l y = some (.int k n)) (ht : P.underlying t = some td) (h : WL P ops Q rest N ((d, .int k (max m n)) :: l) W L) :
    WL P ops Q (⟨some d, .call { callee := .builtin .max, args := #[x, y], argTypes := #[t, t] }, ty, pos, af, none⟩ :: rest) N l W L :=
  o_val hd (fun a w K _ => by
    have h9 : (if m < n then n else m) = max m n := by
      rw [Int.max_def]; split <;> split <;> omega
    simp [execOp, resolve, invoke, builtin, K.eval hx, K.eval hy, Builtin.max_, Builtin.max2, h9]) h
theorem calls_in {f : FuncId} {args : Array Value} {w : World} {R : Ending → World → Prop} {ro : Option Nat} (h : Calls P f args w R) : CallsIn (fen ro) 0 P f args w R := by
  have h1 : CallsIn Fence.wide 0 P f args w R := callsIn_wide.2 h
  exact h1
/-- What a function's value does when it is called. -/
def FV (P : Program) (fv : Value) (args : List Value) (W : World) (L : List Res) (post : Value → List Res → Prop) : Prop :=
  ∀ w, Sat W w L → ∀ (ρ : Operand → Value) (x : Operand) (as9 : Array Operand) (tys : Array TypeId) (dst : Option Tmp) (ty : TypeId) (pos : String) (af : Array Edge) (g : Option (Nat × Bool)), ρ x = fv → as9.map ρ = args.toArray →
    ∃ n w', (execOp ρ ⟨dst, .call { callee := .value x, args := as9, argTypes := tys }, ty, pos, af, g⟩).run P w = .ok n w' ∧
      ((∃ f vs, n = .enter f vs ∧ Calls P f vs w' fun e w'' => ∃ v L', e = .returned v ∧ post v L' ∧ Sat W w'' L') ∨
       (∃ l f tmps assign body, n = .round l f tmps assign body ∧ RoundIn Fence.wide 0 P l f tmps assign body w' fun e w'' => ∃ v L', e = .returned v ∧ post v L' ∧ Sat W w'' L'))
theorem FV.of_cs {f : FuncId} {first caps : Array Value} {args : List Value} {post : Value → List Res → Prop} (hcl : Callable P f) (h : CS P f (first ++ args.toArray ++ caps) W L post) : FV P (.func (.func f) first caps) args W L post := fun w S ρ x as9 tys dst ty pos af g hx ha => by
  obtain ⟨fn, hf, hb, hn⟩ := hcl.is
  have hn' : ¬ fn.name = "runtime.NumGoroutine" := by simpa using hn
  have hb' : ¬ fn.body = none := by
    intro h0
    rw [h0] at hb
    cases hb
  refine ⟨_, w, ?_, .inl ⟨f, first ++ args.toArray ++ caps, rfl, h w S⟩⟩
  simp [execOp, resolve, Deferred.ofValue, invoke, callFunc, ha, hx, hf, hb', hn']
theorem FV.of_csL {f : FuncId} {first caps args : List Value} {post : Value → List Res → Prop} (hcl : Callable P f) (h : CS P f (first ++ args ++ caps).toArray W L post) : FV P (.func (.func f) first.toArray caps.toArray) args W L post :=
  FV.of_cs hcl (by simpa using h)
theorem FV.mono {fv : Value} {args : List Value} {post post' : Value → List Res → Prop} (h : FV P fv args W L post) (hi : ∀ v L', post v L' → post' v L') : FV P fv args W L post' := fun w S ρ x as9 tys dst ty pos af g hx ha => by
  obtain ⟨n, w', h1, h2⟩ := h w S ρ x as9 tys dst ty pos af g hx ha
  refine ⟨n, w', h1, ?_⟩
  rcases h2 with ⟨f, vs, he, hc⟩ | ⟨l, f, tmps, assign, body, he, hc⟩
  · exact .inl ⟨f, vs, he, hc.mono fun _ _ ⟨v, L', he, hp, hs⟩ => ⟨v, L', he, hi v L' hp, hs⟩⟩
  · exact .inr ⟨l, f, tmps, assign, body, he, hc.mono fun _ _ ⟨v, L', he, hp, hs⟩ => ⟨v, L', he, hi v L' hp, hs⟩⟩
theorem FV.conv {fv : Value} {args : List Value} {L' : List Res} {post : Value → List Res → Prop} (hc : ∀ w, Sat W w L → Sat W w L') (h : FV P fv args W L' post) : FV P fv args W L post := fun w S => h w (hc w S)
/-- Any function's value that is known is called. -/
theorem o_callV {x : Operand} {fv : Value} {args : Array Operand} {tys : Array TypeId} {vs : List Value} {post : Value → List Res → Prop} (hd : Nat.ble (d + 1) N = true) (hx : opv l x = some fv) (ha : opvs l args.toList = some vs) (hc : FV P fv vs W L post)
    (h : ∀ v L', post v L' → WL P ops Q rest N ((d, v) :: l) W L') : WL P ops Q (⟨some d, .call { callee := .value x, args := args, argTypes := tys }, ty, pos, af, none⟩ :: rest) N l W L := fun a w K S => by
  have hm : args.map a.eval = vs.toArray := by
    have := opvs_map K ha
    apply Array.toList_inj.1
    simpa using this
  obtain ⟨n, w', h1, h2⟩ := hc w S a.eval x args tys (some d) ty pos af none (K.eval hx) hm
  refine wpListIn_plain rfl fun k hk => ?_
  rcases h2 with ⟨f, as9, rfl, hcc⟩ | ⟨l', f, tmps, assign, body, rfl, hcc⟩
  · refine wpIn_of_run h1 (by simp) ⟨by simp [fen], (calls_in hcc).mono ?_⟩
    rintro e w' ⟨v, L', rfl, hp, hs⟩
    exact hk _ _ (h v L' hp _ _ (K.put hd v) hs)
  · have hcc' : RoundIn (fen N.ro) 0 P l' f tmps assign body w' _ := hcc
    refine wpIn_of_run h1 (by simp) ⟨by simp [fen], hcc'.mono ?_⟩
    rintro e w' ⟨v, L', rfl, hp, hs⟩
    exact hk _ _ (h v L' hp _ _ (K.put hd v) hs)
theorem o_call {f : FuncId} {args : Array Operand} {tys : Array TypeId} {vs : List Value} {post : Value → List Res → Prop} (hd : Nat.ble (d + 1) N = true) (hcl : Callable P f) (ha : opvs l args.toList = some vs) (hc : CS P f vs.toArray W L post)
    (h : ∀ v L', post v L' → WL P ops Q rest N ((d, v) :: l) W L') : WL P ops Q (⟨some d, .call { callee := .value (.func f), args := args, argTypes := tys }, ty, pos, af, none⟩ :: rest) N l W L :=
  o_callV hd (x := .func f) rfl ha (FV.of_cs hcl (by simpa using hc)) h
/-- A function's value is made: with what it captures. -/
theorem o_makeFunc {fn : Fn} {first caps : Array Operand} {fs cs : List Value} (hd : Nat.ble (d + 1) N = true) (hf : opvs l first.toList = some fs) (hc : opvs l caps.toList = some cs) (h : WL P ops Q rest N ((d, .func fn fs.toArray cs.toArray) :: l) W L) :
    WL P ops Q (⟨some d, .makeFunc fn first caps, ty, pos, af, none⟩ :: rest) N l W L :=
  o_val hd (fun a w K _ => by
    have h1 : first.map a.eval = fs.toArray := by
      have := opvs_map K hf
      apply Array.toList_inj.1
      simpa using this
    have h2 : caps.map a.eval = cs.toArray := by
      have := opvs_map K hc
      apply Array.toList_inj.1
      simpa using this
    simp [execOp, Instr.makeFunc, h1, h2]) h
end
end
section
set_option linter.unusedVariables false
set_option linter.unusedSimpArgs false
open Go.RowKit
def Rd (W : World) (L : List Res) (p : Addr) (v : Value) : Prop := ∀ w, Sat W w L → w.cell? p = some v
def RdN (W : World) (L : List Res) (p : Addr) (vs : List Value) : Prop := ∀ w, Sat W w L → ∀ j u, vs[j]? = some u → w.cell? (p.add j) = some u
theorem Addr.add_mk (k j o : Nat) : (⟨k, j, none⟩ : Addr).add o = ⟨k, j + o, none⟩ := by
  unfold Addr.add
  split
  · rename_i h; subst h; rfl
  · rfl
section
variable {W : World} {L : List Res} {k j T : Nat} {cs : Array Value} {m : Nat × Nat} {v : Value}
theorem mem_front {L : List Res} {A : Res} (h : A ∈ L) {w : World} (S : Sat W w L) : ∃ L', Sat W w (A :: L') :=
  let ⟨s, t, e⟩ := List.append_of_mem h
  ⟨s ++ t, S.perm (by rw [e]; exact List.perm_middle)⟩
theorem rd_mem (i : Nat) (h : L[i]? = some (blk k (.cells cs T m))) (hc : cs[j]? = some v) : Rd W L ⟨k, j, none⟩ v := fun w S => by
  obtain ⟨L', S'⟩ := mem_front (List.mem_of_getElem? h) S
  rw [S'.cell, hc]
theorem rdn_mem (i : Nat) (h : L[i]? = some (blk k (.cells cs T m))) {vs : List Value} (hc : ∀ o u, vs[o]? = some u → cs[j + o]? = some u) : RdN W L ⟨k, j, none⟩ vs := fun w S o u ho => by
  obtain ⟨L', S'⟩ := mem_front (List.mem_of_getElem? h) S
  rw [Addr.add_mk, S'.cell, hc o u ho]
end
def row (T sz : Nat) (a : Option Addr) (n c : Nat) (cs : List Value) : Res := fun h =>
  cs.length = n * sz ∧ ((a = none ∧ n = 0 ∧ c = 0 ∧ emp h) ∨ ∃ g cur, a = some ⟨g, 0, none⟩ ∧ n ≤ c ∧ c ≤ maxLen ∧ c * sz ≤ cur.size ∧ cur.toList.take (n * sz) = cs ∧ blk g (.cells cur T (0, 0)) h)
section
variable {W w w' : World} {L : List Res} {T sz n c : Nat} {a : Option Addr} {cs : List Value}
theorem Sat.own_cases (S : Sat W w (row T sz a n c cs :: L)) : cs.length = n * sz ∧ ((a = none ∧ n = 0 ∧ c = 0 ∧ Sat W w (emp :: L)) ∨ ∃ g cur, a = some ⟨g, 0, none⟩ ∧ n ≤ c ∧ c ≤ maxLen ∧ c * sz ≤ cur.size ∧ cur.toList.take (n * sz) = cs ∧ Sat W w (blk g (.cells cur T (0, 0)) :: L)) := by
  obtain ⟨y, ⟨x, b, hd, he, ⟨hl, hx⟩, hb⟩, hy⟩ := S.own
  refine ⟨hl, ?_⟩
  rcases hx with ⟨h1, h2, h3, h4⟩ | ⟨g, cur, h1, h2, h3, h4, h5, h6⟩
  · exact .inl ⟨h1, h2, h3, S.below, S.dr, y, ⟨x, b, hd, he, h4, hb⟩, hy⟩
  · exact .inr ⟨g, cur, h1, h2, h3, h4, h5, S.below, S.dr, y, ⟨x, b, hd, he, h6, hb⟩, hy⟩
theorem Sat.own_nil (S : Sat W w L) : Sat W w (row T sz none 0 0 [] :: L) := S.emp_.imp fun h he => ⟨by simp, .inl ⟨rfl, rfl, rfl, he⟩⟩
theorem Sat.own_mk {g : Nat} {cur : Array Value} (S : Sat W w (blk g (.cells cur T (0, 0)) :: L)) (h1 : n ≤ c) (h2 : c ≤ maxLen) (h3 : c * sz ≤ cur.size) (h4 : cur.toList.take (n * sz) = cs) :
    Sat W w (row T sz (some ⟨g, 0, none⟩) n c cs :: L) := S.imp fun h hb => ⟨by
      rw [← h4, List.length_take, Array.length_toList]
      exact Nat.min_eq_left (Nat.le_trans (Nat.mul_le_mul_right _ h1) h3), .inr ⟨g, cur, rfl, h1, h2, h3, h4, hb⟩⟩
/-- What a row of its own is made of. -/
theorem Sat.own_new {v' : Value} {n' : Nat} {cs' : List Value} (S : Sat W w L) (hr : w'.ownsRow w.heap.size T sz v' n' cs') (hg : w.grownBy w' none) (hdr : w.drawn ≤ w'.drawn) : ∃ a' c', v' = .slice a' n' c' ∧ Sat W w' (row T sz a' n' c' cs' :: L) := by
  rcases hr.2 with ⟨rfl, rfl⟩ | ⟨g', cap, cur', rfl, hb, hh, h6, h7, h8, h9⟩
  · have hcs : cs' = [] := List.eq_nil_of_length_eq_zero (by simpa using hr.1)
    subst hcs
    have S1 : Sat W w' L := by
      have hbl : Below w.heap.size w w' := ⟨hg.os, hg.tape, hg.output, hg.size, fun k hk => hg.block k hk (by simp)⟩
      exact S.more hbl hdr
    exact ⟨none, 0, rfl, S1.own_nil⟩
  · exact ⟨_, _, rfl, (S.grown0 hg hdr hh hb).own_mk h6 h7 (Nat.le_of_eq h8.symm) h9⟩
theorem Sat.own_len (S : Sat W w (row T sz a n c cs :: L)) : cs.length = n * sz ∧ n ≤ c ∧ c ≤ maxLen := by
  obtain ⟨hl, ⟨rfl, rfl, rfl, _⟩ | ⟨g, cur, rfl, h2, h3, h4, h5, S'⟩⟩ := S.own_cases
  · exact ⟨hl, Nat.le_refl _, by simp [maxLen]⟩
  · exact ⟨hl, h2, h3⟩
theorem Sat.own_at (S : Sat W w (row T sz a n c cs :: L)) (h0 : cs ≠ []) : ∃ g, a = some ⟨g, 0, none⟩ := by
  obtain ⟨hl, ⟨rfl, rfl, rfl, _⟩ | ⟨g, cur, rfl, h2, h3, h4, h5, S'⟩⟩ := S.own_cases
  · exact absurd (List.eq_nil_of_length_eq_zero (by simpa using hl)) h0
  · exact ⟨g, rfl⟩
theorem Sat.own_cell {g : Nat} (S : Sat W w (row T sz (some ⟨g, 0, none⟩) n c cs :: L)) (j : Nat) (u : Value) (hj : cs[j]? = some u) : w.cell? ⟨g, j, none⟩ = some u := by
  obtain ⟨hl, ⟨h, _⟩ | ⟨g', cur, he, h2, h3, h4, h5, S'⟩⟩ := S.own_cases
  · cases h
  · cases he
    rw [S'.cell]
    rw [← h5, List.getElem?_take] at hj
    split at hj
    · simpa using hj
    · cases hj
end
structure Enc (α : Type) where
  T : TypeId
  sz : Nat
  bytes : Nat
  z : Value
  cells : α → List Value
structure EncOk {α : Type} (P : Program) (e : Enc α) : Prop where
  ti : TI P e.T e.z e.sz e.bytes
  zs : e.z.cells.size = e.sz
  pos : 0 < e.sz
  len : ∀ x, (e.cells x).length = e.sz
  one : ∀ x, ∀ v ∈ e.cells x, v.oneCell' = true
def flat {α : Type} (e : Enc α) (xs : List α) : List Value := xs.flatMap e.cells
section
variable {α : Type} {P : Program} {e : Enc α}
theorem flat_append (xs ys : List α) : flat e (xs ++ ys) = flat e xs ++ flat e ys := by simp [flat]
theorem flat_length (ok : EncOk P e) (xs : List α) : (flat e xs).length = xs.length * e.sz := by
  induction xs with
  | nil => simp [flat]
  | cons x xs ih =>
    have : flat e (x :: xs) = e.cells x ++ flat e xs := rfl
    rw [this, List.length_append, ok.len, ih, List.length_cons, Nat.add_mul, Nat.one_mul, Nat.add_comm]
theorem flat_one (ok : EncOk P e) (xs : List α) : ∀ v ∈ flat e xs, v.oneCell' = true := fun v hv => by
  simp only [flat, List.mem_flatMap] at hv
  obtain ⟨x, _, hx⟩ := hv
  exact ok.one x v hx
theorem flat_get (ok : EncOk P e) {xs : List α} {i : Nat} {x : α} (hx : xs[i]? = some x) {o : Nat} {u : Value} (ho : (e.cells x)[o]? = some u) : (flat e xs)[i * e.sz + o]? = some u := by
  induction xs generalizing i with
  | nil => cases hx
  | cons y ys ih =>
    have h0 : flat e (y :: ys) = e.cells y ++ flat e ys := rfl
    rw [h0]
    cases i with
    | zero =>
      simp only [List.getElem?_cons_zero, Option.some.injEq] at hx
      subst hx
      rw [Nat.zero_mul, Nat.zero_add, List.getElem?_append_left (List.getElem?_eq_some_iff.1 ho).1]
      exact ho
    | succ i =>
      rw [List.getElem?_append_right (by rw [ok.len, Nat.add_mul]; omega), ok.len, Nat.add_mul, Nat.one_mul]
      rw [show i * e.sz + e.sz + o - e.sz = i * e.sz + o by omega]
      exact ih (by simpa using hx)
end
/-- A slice whose elements can be read. -/
def SlR {α : Type} (w : World) (e : Enc α) (a : Option Addr) (xs : List α) : Prop := xs ≠ [] → ∃ ad, a = some ad ∧ ∀ j u, (flat e xs)[j]? = some u → w.cell? (ad.add j) = some u
def RdS {α : Type} (W : World) (L : List Res) (e : Enc α) (a : Option Addr) (xs : List α) : Prop := ∀ w, Sat W w L → SlR w e a xs
section
variable {α : Type} {P : Program} {e : Enc α} {W w : World} {L : List Res} {a : Option Addr} {xs : List α} {c : Nat}
theorem flat_ne (ok : EncOk P e) (h : xs ≠ []) : flat e xs ≠ [] := fun h0 => h (by
  have h2 := flat_length ok xs
  rw [h0, List.length_nil] at h2
  have h3 := ok.pos
  rcases Nat.eq_zero_or_pos xs.length with hz | hz
  · exact List.eq_nil_of_length_eq_zero hz
  · have := Nat.mul_pos hz h3; omega)
theorem Sat.own_rds (ok : EncOk P e) (S : Sat W w (row e.T e.sz a xs.length c (flat e xs) :: L)) : SlR w e a xs := fun hne => by
  obtain ⟨g, rfl⟩ := S.own_at (flat_ne ok hne)
  refine ⟨_, rfl, fun j u hj => ?_⟩
  rw [Addr.add_mk, Nat.zero_add]
  exact S.own_cell j u hj
theorem rds_own (ok : EncOk P e) (i : Nat) (h : L[i]? = some (row e.T e.sz a xs.length c (flat e xs))) : RdS W L e a xs := fun w S => by
  obtain ⟨L', S'⟩ := mem_front (List.mem_of_getElem? h) S
  exact S'.own_rds ok
theorem rd_sl (ok : EncOk P e) {ad : Addr} (ha : a = some ad) (h : RdS W L e a xs) {i : Nat} {x : α} (hx : xs[i]? = some x) {o : Nat} {u : Value} (ho : (e.cells x)[o]? = some u) : Rd W L (ad.add (i * e.sz + o)) u := fun w S => by
  subst ha
  obtain ⟨ad', he, hc⟩ := h w S (fun h0 => by subst h0; cases hx)
  cases he
  exact hc _ _ (flat_get ok hx ho)
theorem rd_sl0 (ok : EncOk P e) {ad : Addr} (ha : a = some ad) (h : RdS W L e a xs) {i : Nat} {x : α} (hx : xs[i]? = some x) {u : Value} (ho : (e.cells x)[0]? = some u) : Rd W L (ad.add (i * e.sz)) u := rd_sl ok ha h hx ho
theorem rdn_sl (ok : EncOk P e) {ad : Addr} (ha : a = some ad) (h : RdS W L e a xs) {i : Nat} {x : α} (hx : xs[i]? = some x) : RdN W L (ad.add (i * e.sz)) (e.cells x) := fun w S o u ho => by
  rw [Addr.add_add']
  exact rd_sl ok ha h hx ho w S
theorem RdS.below (h : RdS W L e a xs) {L2 : List Res} (hc : ∀ w, Sat W w L2 → Sat W w L) : RdS W L2 e a xs := fun w S => h w (hc w S)
/-- In the old world itself. -/
theorem rds_old (h : SlR W e a xs) : RdS W L e a xs := fun w S hne => by
  obtain ⟨ad, he, hc⟩ := h hne
  exact ⟨ad, he, fun j u hj => (S.below.cell (World.block_lt_of_cell? W _ (hc j u hj))).trans (hc j u hj)⟩
end
theorem cells_one {v : Value} (hv : v.oneCell' = true) : v.cells = #[v] := by cases v <;> first | rfl | (simp [Value.oneCell'] at hv)
theorem run_store_one {P : Program} {w : World} {p : Addr} {v u : Value} (hv : v.oneCell' = true) (h1 : w.cell? p = some u) (h2 : w.frozen? p = false) : (store p v).run P w = .ok () (w.setCell p v) := by
  cases v <;> first | (simp [Value.oneCell'] at hv; done) | simp [store, Sem.run, h1, h2]
section
variable {P : Program} {N : FN} {l : Fr} {W : World} {L L0 : List Res} {Q : Exit → Act → World → Prop} {ops : Array Oper} {rest : List Oper}
variable {d : Nat} {ty : TypeId} {pos : String} {af : Array Edge}
theorem o_load1 {t : TypeId} {x : Operand} {p : Addr} {td : TypeDesc} {v : Value} (hd : Nat.ble (d + 1) N = true) (hx : opv l x = some (.pointer (some p))) (hu : P.underlying t = some td) (ha : aggD td = false) (hr : Rd W L p v)
    (h : WL P ops Q rest N ((d, v) :: l) W L) : WL P ops Q (⟨some d, .load t x, ty, pos, af, none⟩ :: rest) N l W L :=
  o_val hd (fun a w K S => by simp [execOp, K.eval hx, Instr.loadAt, Instr.sureAddr, loadVar, run_isAgg hu, ha, hr w S]) h
theorem o_loadn {t : TypeId} {x : Operand} {p : Addr} {td : TypeDesc} {z : Value} {b : Nat} {vs : List Value} (hd : Nat.ble (d + 1) N = true) (hx : opv l x = some (.pointer (some p))) (hu : P.underlying t = some td) (ha : aggD td = true) (hi : TI P t z vs.length b) (hr : RdN W L p vs)
    (h : WL P ops Q rest N ((d, .agg vs.toArray) :: l) W L) : WL P ops Q (⟨some d, .load t x, ty, pos, af, none⟩ :: rest) N l W L :=
  o_val hd (fun a w K S => by
    have := run_loadCells_list (P := P) w p vs (hr w S)
    simp [execOp, K.eval hx, Instr.loadAt, Instr.sureAddr, loadVar, run_isAgg hu, ha, run_sizeOf' hi, this]) h
theorem o_store1 {t : TypeId} {x y : Operand} {k j T : Nat} {cs cs' : Array Value} {z v : Value} {b : Nat} (hx : opv l x = some (.pointer (some ⟨k, j, none⟩))) (hy : opv l y = some v) (hv : v.oneCell' = true) (hi : TI P t z 1 b) (hj0 : Nat.ble (j + 1) cs.size = true) (hc : cs.setIfInBounds j v = cs')
    (h : WL P ops Q rest N l W (blk k (.cells cs' T (0, 0)) :: L)) : WL P ops Q (⟨none, .store t x y, ty, pos, af, none⟩ :: rest) N l W (blk k (.cells cs T (0, 0)) :: L) :=
  o_skip (fun a w K S => ⟨w.setCell ⟨k, j, none⟩ v, by
    have h1 := S.cell j
    have h2 := S.frozen j
    have hj : j < cs.size := Nat.le_of_ble_eq_true hj0
    rw [Array.getElem?_eq_getElem hj] at h1
    simp only [execOp, K.eval hx, K.eval hy, Instr.storeAt, Instr.sureAddr, storeVar]
    have h3 := cells_one hv
    simp [run_sizeOf' hi, h3, storeCells, Addr.add, run_store_one hv h1 h2], by
    subst hc
    exact S.setCell j v⟩) h
theorem o_storen {t : TypeId} {x y : Operand} {k j T : Nat} {cs cs' vs : Array Value} {z : Value} {b : Nat} (hx : opv l x = some (.pointer (some ⟨k, j, none⟩))) (hy : opv l y = some (.agg vs)) (hi : TI P t z vs.size b) (hj : Nat.ble (j + vs.size) cs.size = true) (_h0 : (0 : Nat) = 0) (hvb : vs.toList.all (fun v => v.oneCell') = true)
    (hc : (cs.toList.take j ++ vs.toList ++ cs.toList.drop (j + vs.size)).toArray = cs') (h : WL P ops Q rest N l W (blk k (.cells cs' T (0, 0)) :: L)) : WL P ops Q (⟨none, .store t x y, ty, pos, af, none⟩ :: rest) N l W (blk k (.cells cs T (0, 0)) :: L) :=
  o_skip (fun a w K S => ⟨w.setRow k cs', by
    subst hc
    have hv : ∀ v ∈ vs.toList, v.oneCell' = true := fun v hv => List.all_eq_true.1 hvb v hv
    have h1 := run_storeCells_at P k j T vs.toList 0 cs w S.read.2 (by have := Nat.le_of_ble_eq_true hj; simpa using this) hv
    simp only [Nat.add_zero, Array.length_toList] at h1
    simp [execOp, K.eval hx, K.eval hy, Instr.storeAt, Instr.sureAddr, storeVar, run_sizeOf' hi, Value.cells, h1], by
    refine S.turn rfl rfl rfl (by simp [World.setRow]) (setRow_heap w k cs _ T _ S.read.2) (fun i hi => setRow_other w k i _ hi)⟩) h
theorem o_alloc {t : TypeId} {z : Value} {s b : Nat} (hd : Nat.ble (d + 1) N = true) (hi : TI P t z s b) (h : ∀ k, WL P ops Q rest N ((d, .pointer (some ⟨k, 0, none⟩)) :: l) W (blk k (.cells z.cells t (0, 0)) :: L)) :
    WL P ops Q (⟨some d, .alloc t, ty, pos, af, none⟩ :: rest) N l W L :=
  o_runx hd (vv := fun k => .pointer (some ⟨k, 0, none⟩)) (LL := fun k => blk k (.cells z.cells t (0, 0)) :: L) (fun a w K S => ⟨w.heap.size, w.alloc (.cells z.cells t), by simp [execOp, Instr.alloc, run_zeroValue' hi, newVar, newRow], S.alloc _⟩) h
theorem o_box {t : TypeId} {x : Operand} {v : Value} (hd : Nat.ble (d + 1) N = true) (hx : opv l x = some v) (h : ∀ k, WL P ops Q rest N ((d, .pointer (some ⟨k, 0, none⟩)) :: l) W (blk k (.cells v.cells t (0, 0)) :: L)) :
    WL P ops Q (⟨some d, .box t x, ty, pos, af, none⟩ :: rest) N l W L :=
  o_runx hd (vv := fun k => .pointer (some ⟨k, 0, none⟩)) (LL := fun k => blk k (.cells v.cells t (0, 0)) :: L) (fun a w K S => ⟨w.heap.size, w.alloc (.cells v.cells t), by simp [execOp, Instr.box, K.eval hx, newVar, newRow], S.alloc _⟩) h
theorem o_index {α : Type} {e : Enc α} {t : TypeId} {x y : Operand} {a : Option Addr} {c : Nat} {k : IntKind} {q : Int} {xs : List α} (ok : EncOk P e) (hd : Nat.ble (d + 1) N = true) (hx : opv l x = some (.slice a xs.length c)) (hy : opv l y = some (.int k q)) (ht : P.underlying t = some (.slice e.T))
    (h0 : 0 ≤ q) (h1 : q < xs.length) (hr : RdS W L e a xs) (h : ∀ ad, a = some ad → WL P ops Q rest N ((d, .pointer (some (ad.add (q.toNat * e.sz)))) :: l) W L) :
    WL P ops Q (⟨some d, .indexAddr t x y, ty, pos, af, none⟩ :: rest) N l W L :=
  o_runx (α := { ad : Addr // a = some ad }) hd (vv := fun ad => .pointer (some (ad.1.add (q.toNat * e.sz)))) (LL := fun _ => L) (fun b w K S => by
    obtain ⟨ad, rfl, hc⟩ := hr w S (fun h0 => by subst h0; simp at h1; omega)
    exact ⟨⟨ad, rfl⟩, w, by simp [execOp, K.eval hx, K.eval hy, Instr.indexAt, asIntOf, run_underlying ht, h0, h1, run_sizeOf' ok.ti], S⟩) fun x => h x.1 x.2
theorem o_indexK {α : Type} {e : Enc α} {t : TypeId} {x y : Operand} {a : Option Addr} {ad : Addr} {n c : Nat} {k : IntKind} {q : Int} (ok : EncOk P e) (ea : a = some ad) (hd : Nat.ble (d + 1) N = true) (hx : opv l x = some (.slice a n c)) (hy : opv l y = some (.int k q)) (ht : P.underlying t = some (.slice e.T))
    (h0 : 0 ≤ q) (h1 : q < n) (h : WL P ops Q rest N ((d, .pointer (some (ad.add (q.toNat * e.sz)))) :: l) W L) :
    WL P ops Q (⟨some d, .indexAddr t x y, ty, pos, af, none⟩ :: rest) N l W L :=
  o_val hd (fun b w K S => by
    subst ea
    simp [execOp, K.eval hx, K.eval hy, Instr.indexAt, asIntOf, run_underlying ht, h0, h1, run_sizeOf' ok.ti]) h
theorem rds_some {α : Type} {e : Enc α} {a : Option Addr} {xs : List α} (h : RdS W L e a xs) (hne : xs ≠ []) : ∀ w, Sat W w L → ∃ ad, a = some ad := fun w S => let ⟨ad, h1, _⟩ := h w S hne; ⟨ad, h1⟩
theorem rds_nilq {α : Type} {e : Enc α} {a : Option Addr} {xs : List α} (h : RdS W L e a xs) : ∀ w, Sat W w L → a = none → xs = [] := fun w S ha => Classical.byContradiction fun hne => by
  obtain ⟨ad, h1, _⟩ := h w S hne
  rw [ha] at h1; cases h1
theorem rds_c {α : Type} {e : Enc α} {a : Option Addr} {xs : List α} {A : Res} (h : RdS W L e a xs) : RdS W (A :: L) e a xs := fun w S => h w S.tail
theorem row_cap {T sz n c : Nat} {a : Option Addr} {cs : List Value} (i : Nat) (h : L[i]? = some (row T sz a n c cs)) : ∀ w, Sat W w L → n ≤ c := fun w S => by
  obtain ⟨L', S'⟩ := mem_front (List.mem_of_getElem? h) S
  exact S'.own_len.2.1
theorem run_append_room_row {w w1 : World} (t ty e : TypeId) (i : TypeInfo) (ht : P.underlying t = some (.slice e)) (hi : P.info? e = some i)
    (b off sLen sCap : Nat) (a : Addr) (m c : Nat) (news : List Value) (hl : news.length = m * i.size) (hnews : ∀ j u, news[j]? = some u → w.cell? (a.add j) = some u)
    (hroom : sLen + m ≤ sCap) (hst : (storeCells ⟨b, off + sLen * i.size, none⟩ news 0).run P w = .ok () w1) :
    (Builtin.append_ #[t, t] ty #[.slice (some ⟨b, off, none⟩) sLen sCap, .slice (some a) m c]).run P w = .ok (.slice (some ⟨b, off, none⟩) (sLen + m) sCap) w1 := by
  have hfc := run_firstCells_some (P := P) w i.size m a m c news hl hnews
  simp [Builtin.append_, run_underlying ht, sizeOf, typeInfo, hi, Builtin.lenOf, hroom, hfc, Addr.add_lit, hst]
theorem o_append {α : Type} {e : Enc α} {t : TypeId} {x y : Operand} {a b : Option Addr} {c c2 : Nat} {xs ys : List α} (ok : EncOk P e) (hd : Nat.ble (d + 1) N = true) (hx : opv l x = some (.slice a xs.length c)) (hy : opv l y = some (.slice b ys.length c2)) (ht : P.underlying t = some (.slice e.T))
    (hr : RdS W (row e.T e.sz a xs.length c (flat e xs) :: L) e b ys) (hb : (xs.length + ys.length) * e.bytes ≤ 140737488355328) (hm : xs.length + ys.length ≤ 140737488355328)
    (h : ∀ a' c', WL P ops Q rest N ((d, .slice a' (xs ++ ys).length c') :: l) W (row e.T e.sz a' (xs ++ ys).length c' (flat e (xs ++ ys)) :: L)) :
    WL P ops Q (⟨some d, .call { callee := .builtin .append, args := #[x, y], argTypes := #[t, t] }, ty, pos, af, none⟩ :: rest) N l W (row e.T e.sz a xs.length c (flat e xs) :: L) :=
  o_runx (α := Option Addr × Nat) hd (vv := fun p => .slice p.1 (xs ++ ys).length p.2) (LL := fun p => row e.T e.sz p.1 (xs ++ ys).length p.2 (flat e (xs ++ ys)) :: L) (fun ac w K S => by
    obtain ⟨i, hi, hz, hs, hby⟩ := ok.ti.get
    cases b with
    | some bd =>
      have hnews : ∀ j u, (flat e ys)[j]? = some u → w.cell? (bd.add j) = some u := fun j u hj => by
        by_cases hys : ys = []
        · subst hys; simp [flat] at hj
        · obtain ⟨ad, he, hc⟩ := hr w S hys
          cases he
          exact hc j u hj
      have hny := flat_length ok ys
      obtain ⟨hl, ⟨h1, h2, h3, S'⟩ | ⟨g, cur, h1, h2, h3, h4, h5, S'⟩⟩ := S.own_cases
      · subst h1; subst h3
        have hxs : xs = [] := List.eq_nil_of_length_eq_zero h2
        subst hxs
        obtain ⟨v', w', h1, h2, h3, _, h5⟩ := run_append_own_at (P := P) w w.heap.size t ty e.T i e.z e.sz e.bytes ht hi hz hs hby ok.zs ok.pos (.slice none 0 0) 0 [] (World.ownsRow_nil w _ e.T e.sz) bd ys.length c2 (flat e ys) hny hnews (flat_one ok ys) (by simp only [maxLen]; omega) (by simpa using hb) (Nat.le_refl _)
        obtain ⟨a', c', rfl, S2⟩ := S'.tail.own_new h2 (by simpa [Value.ownBlock] using h3) (run_drawn _ _ h1)
        refine ⟨(a', c'), w', ?_, by simpa [flat_append] using S2⟩
        simp [execOp, resolve, invoke, builtin, K.eval hx, K.eval hy, h1]
      · subst h1
        by_cases hroom : xs.length + ys.length ≤ c
        · have hle : (xs.length + ys.length) * e.sz ≤ cur.size := Nat.le_trans (Nat.mul_le_mul_right _ hroom) h4
          rw [Nat.add_mul] at hle
          have hst := run_storeCells_at P g (xs.length * e.sz) e.T (flat e ys) 0 cur w S'.read.2 (by simp; omega) (flat_one ok ys)
          simp only [Nat.add_zero] at hst
          rw [← hs] at hst hny
          have hrun := run_append_room_row (P := P) t ty e.T i ht hi g 0 xs.length c bd ys.length c2 (flat e ys) hny hnews hroom (by rw [Nat.zero_add]; exact hst)
          refine ⟨(some ⟨g, 0, none⟩, c), w.setRow g (cur.toList.take (xs.length * e.sz) ++ flat e ys ++ cur.toList.drop (xs.length * e.sz + (flat e ys).length)).toArray, ?_, ?_⟩
          · rw [← hs]
            simp [execOp, resolve, invoke, builtin, K.eval hx, K.eval hy, hrun]
          · have S2 : Sat W (w.setRow g (cur.toList.take (xs.length * e.sz) ++ flat e ys ++ cur.toList.drop (xs.length * e.sz + (flat e ys).length)).toArray) (blk g (.cells (cur.toList.take (xs.length * e.sz) ++ flat e ys ++ cur.toList.drop (xs.length * e.sz + (flat e ys).length)).toArray e.T (0, 0)) :: L) :=
              S'.turn rfl rfl rfl (by simp [World.setRow]) (setRow_heap w g cur _ e.T _ S'.read.2) (fun q hq => setRow_other w g q _ hq)
            rw [hs] at hny
            refine S2.own_mk (by rw [List.length_append]; exact hroom) h3 ?_ ?_
            · rw [List.size_toArray]; simp only [List.length_append, List.length_take, List.length_drop, Array.length_toList]; omega
            · rw [List.toList_toArray, h5, ← flat_append]
              refine List.take_left' ?_
              rw [flat_length ok]
        · obtain ⟨v', w', h1, h2', h3'⟩ := run_append_arg_grows (P := P) w t ty e.T i e.z e.sz e.bytes ht hi hz hs hby ok.zs ok.pos ⟨g, 0, none⟩ xs.length c (flat e xs) (flat_length ok xs) (fun j u hj => by
            rw [Addr.add_lit, Nat.zero_add]
            exact S.own_cell j u hj) bd ys.length c2 (flat e ys) hny hnews (by omega) (by simp only [maxLen]; omega) hb
          obtain ⟨a', c', rfl, S2⟩ := S'.tail.own_new h2' h3' (run_drawn _ _ h1)
          refine ⟨(a', c'), w', ?_, by simpa [flat_append] using S2⟩
          simp [execOp, resolve, invoke, builtin, K.eval hx, K.eval hy, h1]
    | none =>
      have hys : ys = [] := Classical.byContradiction fun h0 => by
        obtain ⟨ad, he, _⟩ := hr w S h0
        cases he
      subst hys
      refine ⟨(a, c), w, ?_, by simpa using S⟩
      have := S.own_len
      simp [execOp, resolve, invoke, builtin, K.eval hx, K.eval hy, Builtin.append_, run_underlying ht, sizeOf, typeInfo, hi, Builtin.lenOf, Builtin.firstCells, this.2.1]
      cases a <;> simp [storeCells]) fun p => h p.1 p.2
/-- x[lo:hi:max] of a slice: the address moves on. -/
def cutA (a : Option Addr) (m lo sz : Nat) : Option Addr := if m = lo then a else a.map (·.add (lo * sz))
theorem o_cut {t e : Nat} {x : Operand} {lo hi mx : Option Operand} {a : Option Addr} {n c l' h' m : Nat} {z : Value} {s b : Nat} (hd : Nat.ble (d + 1) N = true) (hx : opv l x = some (.slice a n c)) (ht : P.underlying t = some (.slice e)) (hi' : TI P e z s b)
    (hm : (mx = none ∧ m = c) ∨ ∃ o k, mx = some o ∧ opv l o = some (.int k (m : Int)) ∧ m ≤ c) (hh : (hi = none ∧ mx = none ∧ h' = n) ∨ ∃ o k, hi = some o ∧ opv l o = some (.int k (h' : Int)) ∧ h' ≤ m) (hl : (lo = none ∧ l' = 0) ∨ ∃ o k, lo = some o ∧ opv l o = some (.int k (l' : Int)) ∧ l' ≤ h')
    (h : WL P ops Q rest N ((d, .slice (cutA a m l' s) (h' - l') (m - l')) :: l) W L) : WL P ops Q (⟨some d, .slice t x lo hi mx, ty, pos, af, none⟩ :: rest) N l W L :=
  o_val hd (fun w0 w K S => by
    have hb : (Instr.sliceBounds true n c (lo.map w0.eval) (hi.map w0.eval) (mx.map w0.eval)).run P w = .ok (l', h', m) w := by
      unfold Instr.sliceBounds
      rcases hm with ⟨rfl, rfl⟩ | ⟨om, km, rfl, hom, hmc⟩ <;> rcases hh with ⟨rfl, hx2, rfl⟩ | ⟨oh, kh, rfl, hoh, hhm⟩ <;> rcases hl with ⟨rfl, rfl⟩ | ⟨ol, kl, rfl, hol, hlh⟩ <;>
        first
        | (cases hx2; done)
        | simp_all [Instr.sliceBound, asIntOf, K.eval, Int.ofNat_le]
    simp only [execOp, K.eval hx, Instr.sliceAt, Instr.slice, Sem.run_bind, run_underlying ht, Result.andThen_ok]
    simp only [Sem.run_bind, run_underlying ht, Result.andThen_ok, hb, run_sizeOf' hi', cutA]
    simp) h
end
end
section
set_option linter.unusedVariables false
set_option linter.unusedSimpArgs false
open Go.RowKit
section
variable {κ β : Type} [DecidableEq κ]
end
section
variable {κ β : Type} {W w w' : World} {L : List Res} {kv : κ → Value} {vv : β → Value} {k : Nat} {D : List (κ × β)}
def World.put (w : World) (k : Nat) (o : Obj) : World := { w with heap := w.heap.setIfInBounds k o }
theorem Sat.put {o o' : Obj} (S : Sat W w (blk k o :: L)) : Sat W (World.put w k o') (blk k o' :: L) := by
  have hr := S.read.2
  have hlt := (Array.getElem?_eq_some_iff.1 hr).1
  refine S.turn rfl rfl rfl (by simp [World.put]) ?_ (fun j hj => ?_)
  · simp [World.put, hlt]
  · simp only [World.put]; exact Array.getElem?_setIfInBounds_ne (fun e => hj e.symm)
end
section
variable {P : Program} {N : FN} {l : Fr} {W : World} {L L0 : List Res} {Q : Exit → Act → World → Prop} {ops : Array Oper} {rest : List Oper}
variable {d : Nat} {ty : TypeId} {pos : String} {af : Array Edge} {κ β : Type} {kv : κ → Value} {vv : β → Value} {k : Nat} {D : List (κ × β)}
section
variable [DecidableEq κ]
end
section
variable [DecidableEq κ]
end
end
end
section
set_option linter.unusedVariables false
set_option linter.unusedSimpArgs false
open Go.RowKit
theorem vint {k : IntKind} {a b : Int} (h : a = b) : some (Value.int k a) = some (Value.int k b) := by rw [h]
theorem wrap_i64 {x : Int} (h1 : -9223372036854775808 ≤ x) (h2 : x ≤ 9223372036854775807) : IntKind.i64.wrap x = x := by
  simp [IntKind.wrap, IntKind.signed, IntKind.bits]; omega
theorem wrap_u64 {x : Int} (h1 : 0 ≤ x) (h2 : x ≤ 18446744073709551615) : IntKind.u64.wrap x = x := by
  simp [IntKind.wrap, IntKind.signed, IntKind.bits]; omega
def l0of : Nat → List Value → Fr
  | _, [] => []
  | i, v :: vs => (i, v) :: l0of (i + 1) vs
theorem lk_l0of : ∀ (vs : List Value) (i t : Nat) (v : Value), lk (l0of i vs) t = some v → i ≤ t ∧ vs[t - i]? = some v
  | [], i, t, v, h => by cases h
  | u :: vs, i, t, v, h => by
    simp only [l0of] at h
    rw [lk_cons] at h
    split at h
    · rename_i e
      subst e
      simpa using h
    · rename_i e
      obtain ⟨h1, h2⟩ := lk_l0of vs (i + 1) t v h
      refine ⟨by omega, ?_⟩
      rw [show t - i = (t - (i + 1)) + 1 by omega, List.getElem?_cons_succ]
      exact h2
section
variable {P : Program} {N : FN} {l : Fr} {W : World} {L L' F : List Res} {Q : Exit → Act → World → Prop} {ops : Array Oper} {rest : List Oper}
theorem f_door {f : FuncId} {fn : Func} {c : Code} {args : Array Value} {post : Value → List Res → Prop} {l0 : Fr} {n : Nat} (hf : P.funcs[f]? = some fn) (hN : fn.ntmps = n) (hb : fn.body = some c) (hs : Nat.ble args.size n = true) (hl : l0of 0 args.toList = l0)
    (h : WC P c (postC P fn W post) { n := n } l0 W L) : CS P f args W L post := by
  subst hN
  refine f_enter hf hb l0 (fun a ha hdf => ?_) h
  subst hl
  refine ⟨?_, hdf, fun t v ht => ?_⟩
  · have := Nat.le_of_ble_eq_true hs
    rw [ha]; simp; omega
  · obtain ⟨_, h2⟩ := lk_l0of _ _ _ _ ht
    simp only [Nat.sub_zero, Array.getElem?_toList] at h2
    rw [ha, Array.getD_eq_getD_getElem?, Array.getElem?_append_left (Array.getElem?_eq_some_iff.1 h2).1, h2]
    rfl
theorem l_split {t : Nat} {b : Bool} (hx : lk l t = some (.bool b)) (ht : b = true → WL P ops Q rest N ((t, .bool true) :: l) W L) (he : b = false → WL P ops Q rest N ((t, .bool false) :: l) W L) : WL P ops Q rest N l W L := by
  cases b with
  | true => exact l_eq hx rfl (ht rfl)
  | false => exact l_eq hx rfl (he rfl)
theorem l_perm (hp : L.Perm L') (h : WL P ops Q rest N l W L') : WL P ops Q rest N l W L := l_conv (fun w S => S.perm hp) h
section
variable {A B C D E G H I J : Res}
theorem p1 : (A :: B :: L).Perm (B :: A :: L) := List.Perm.swap _ _ _
theorem p2 : (A :: B :: C :: L).Perm (C :: A :: B :: L) := (List.Perm.cons A (List.Perm.swap _ _ _)).trans (List.Perm.swap _ _ _)
theorem p3 : (A :: B :: C :: D :: L).Perm (D :: A :: B :: C :: L) := (List.Perm.cons A p2).trans (List.Perm.swap _ _ _)
theorem p4 : (A :: B :: C :: D :: E :: L).Perm (E :: A :: B :: C :: D :: L) := (List.Perm.cons A p3).trans (List.Perm.swap _ _ _)
theorem p5 : (A :: B :: C :: D :: E :: G :: L).Perm (G :: A :: B :: C :: D :: E :: L) := (List.Perm.cons A p4).trans (List.Perm.swap _ _ _)
theorem p6 : (A :: B :: C :: D :: E :: G :: H :: L).Perm (H :: A :: B :: C :: D :: E :: G :: L) := (List.Perm.cons A p5).trans (List.Perm.swap _ _ _)
theorem p7 : (A :: B :: C :: D :: E :: G :: H :: I :: L).Perm (I :: A :: B :: C :: D :: E :: G :: H :: L) := (List.Perm.cons A p6).trans (List.Perm.swap _ _ _)
theorem p8 : (A :: B :: C :: D :: E :: G :: H :: I :: J :: L).Perm (J :: A :: B :: C :: D :: E :: G :: H :: I :: L) := (List.Perm.cons A p7).trans (List.Perm.swap _ _ _)
theorem l_f1 (h : WL P ops Q rest N l W (B :: A :: L)) : WL P ops Q rest N l W (A :: B :: L) := l_perm p1 h
theorem l_f2 (h : WL P ops Q rest N l W (C :: A :: B :: L)) : WL P ops Q rest N l W (A :: B :: C :: L) := l_perm p2 h
theorem l_f3 (h : WL P ops Q rest N l W (D :: A :: B :: C :: L)) : WL P ops Q rest N l W (A :: B :: C :: D :: L) := l_perm p3 h
theorem l_f4 (h : WL P ops Q rest N l W (E :: A :: B :: C :: D :: L)) : WL P ops Q rest N l W (A :: B :: C :: D :: E :: L) := l_perm p4 h
theorem l_f5 (h : WL P ops Q rest N l W (G :: A :: B :: C :: D :: E :: L)) : WL P ops Q rest N l W (A :: B :: C :: D :: E :: G :: L) := l_perm p5 h
theorem l_f6 (h : WL P ops Q rest N l W (H :: A :: B :: C :: D :: E :: G :: L)) : WL P ops Q rest N l W (A :: B :: C :: D :: E :: G :: H :: L) := l_perm p6 h
theorem l_f7 (h : WL P ops Q rest N l W (I :: A :: B :: C :: D :: E :: G :: H :: L)) : WL P ops Q rest N l W (A :: B :: C :: D :: E :: G :: H :: I :: L) := l_perm p7 h
theorem l_f8 (h : WL P ops Q rest N l W (J :: A :: B :: C :: D :: E :: G :: H :: I :: L)) : WL P ops Q rest N l W (A :: B :: C :: D :: E :: G :: H :: I :: J :: L) := l_perm p8 h
theorem l_drop (h : WL P ops Q rest N l W L) : WL P ops Q rest N l W (A :: L) := l_conv (fun w S => S.tail) h
end
theorem rdn_lit {k j T : Nat} {cs : Array Value} {m : Nat × Nat} {vs : List Value} (i : Nat) (h : L[i]? = some (blk k (.cells cs T m))) (hc : (cs.toList.drop j).take vs.length = vs) : RdN W L ⟨k, j, none⟩ vs :=
  rdn_mem i h fun o u ho => by
    rw [← hc, List.getElem?_take] at ho
    split at ho
    · simpa using ho
    · cases ho
/-- Ways meet: what holds behind a piece of code. -/
theorem c_mid {x y : Code} {α : Type} (l' : α → Fr) (L' : α → List Res) (p : α → Prop) (h1 : WC P x (Exit.then (fun a w => ∃ z, p z ∧ Know a N (l' z) ∧ Sat W w (L' z)) Q) N l W L)
    (h2 : ∀ z, p z → WC P y Q N (l' z) W (L' z)) : WC P x (Exit.then (y.wpIn (fen N.ro) 0 P Q) Q) N l W L := fun a w K S =>
  wpIn_mono (h1 a w K S) fun e a' w' hq => by
    cases e with
    | normal => obtain ⟨z, hz, Kz, Sz⟩ := hq; exact h2 z hz a' w' Kz Sz
    | exit _ => exact hq
    | goto _ => exact hq
    | ret => exact hq
    | panic _ => exact hq
    | outgrown => exact hq
theorem q_mid {α : Type} {l' : α → Fr} {L' : α → List Res} {p : α → Prop} (y : α) (hp : p y) (hl : subk (l' y) l) (hL : ∀ w, Sat W w L → Sat W w (L' y)) :
    WQ (Exit.then (fun a w => ∃ z, p z ∧ Know a N (l' z) ∧ Sat W w (L' z)) Q) .normal N l W L := fun _ w K S => ⟨y, hp, K.sub (subk_lk hl), hL w S⟩
/-- An operation yields a value and leaves the world alone. -/
def OV (P : Program) (N : FN) (l : Fr) (W : World) (L : List Res) (o : Oper) (v : Value) : Prop := ∀ a w, Know a N l → Sat W w L → (execOp a.eval o).run P w = .ok (.value v) w
def WLQ (P : Program) (ops : Array Oper) (Q : Exit → Act → World → Prop) (rest : List Oper) (N : FN) (l : Fr) (W : World) (L : List Res) : Prop :=
  ∀ a, Know a N l → wpQuiet P ops (fun w => Sat W w L) (fun a' => ∀ w', Sat W w' L → Q .normal a' w') rest a
theorem c_quiet {id : Nat} {ops : List Oper} (hm : P.follows .mixedOrders = true) (hB : Region.lexB .any ops.toArray = true) (h : WLQ P ops.toArray Q ops N l W L) (hro : N.ro = none := by rfl) : WC P (.region id ops.toArray true) Q N l W L := fun a w K S => by
  rw [hro]
  exact wpIn_wide.2 (wp_region_quiet (C := fun w => Sat W w L) hm hB (S.drew) (by simpa using h a K))
namespace Qt
theorem l_nil (h : WQ Q .normal N l W L) : WLQ P ops Q [] N l W L := fun a K => wpQuiet_nil (fun w' S => h a w' K S)
theorem l_eq {t : Nat} {v v' : Value} (hx : lk l t = some v) (e : v = v') (h : WLQ P ops Q rest N ((t, v') :: l) W L) : WLQ P ops Q rest N l W L := fun a K =>
  h a (K.sub (l' := (t, v') :: l) (fun s u hs => by
    rw [lk_cons] at hs
    split at hs
    · rename_i hts; subst hts; subst e; rw [hx]; exact hs
    · exact hs))
theorem l_split {t : Nat} {b : Bool} (hx : lk l t = some (.bool b)) (ht : b = true → WLQ P ops Q rest N ((t, .bool true) :: l) W L) (he : b = false → WLQ P ops Q rest N ((t, .bool false) :: l) W L) : WLQ P ops Q rest N l W L := by
  cases b with
  | true => exact l_eq hx rfl (ht rfl)
  | false => exact l_eq hx rfl (he rfl)
theorem o_val {d : Nat} {op : Op} {ty : TypeId} {pos : String} {af : Array Edge} {v : Value} (hd : Nat.ble (d + 1) N = true)
    (hr : ∀ a w, Know a N l → Sat W w L → (execOp a.eval ⟨some d, op, ty, pos, af, none⟩).run P w = .ok (.value v) w)
    (h : WLQ P ops Q rest N ((d, v) :: l) W L) : WLQ P ops Q (⟨some d, op, ty, pos, af, none⟩ :: rest) N l W L := fun a K =>
  wpQuiet_step fun k hk => by
    rw [if_pos (by simp [Region.wanted])]
    refine ⟨v, fun w S => ?_, hk _ (h _ (K.put hd v))⟩
    unfold Oper.quietAt
    rw [hr a w K S]
    exact ⟨rfl, rfl⟩
theorem o_yes {dst : Option Tmp} {op : Op} {ty : TypeId} {pos : String} {af : Array Edge} {j d : Nat} {b : Bool} (hj : (ops[j]?).bind (·.dst) = some d) (hv : lk l d = some (.bool b)) (hd : Nat.ble (d + 1) N = true)
    (h : WLQ P ops Q (⟨dst, op, ty, pos, af, none⟩ :: rest) N l W L) : WLQ P ops Q (⟨dst, op, ty, pos, af, some (j, b)⟩ :: rest) N l W L := fun a K => by
  have hd' : d < a.tmps.size := by rw [K.size]; exact Nat.le_of_ble_eq_true hd
  have hy : yielded ops a.tmps j = some b := by
    have := K.val d _ hv
    simp only [yielded, hj, Option.bind_some]
    rw [Array.getD_eq_getD_getElem?, Array.getElem?_eq_getElem hd'] at this
    rw [Array.getElem?_eq_getElem hd']
    simp only [Option.getD_some] at this
    rw [this]
  have h1 := h a K
  unfold wpQuiet at h1 ⊢
  rw [if_pos (by simp [Region.wanted])] at h1
  rw [if_pos (by simp [Region.wanted, hy])]
  exact h1
theorem o_no {d0 : Nat} {op : Op} {ty : TypeId} {pos : String} {af : Array Edge} {j d : Nat} {b : Bool} {v : Value} (hj : (ops[j]?).bind (·.dst) = some d) (hv : lk l d = some v) (hb : (match v with | .bool c => c == b | _ => false) = false) (hd : Nat.ble (d0 + 1) N = true)
    (h : WLQ P ops Q rest N ((d0, undef) :: l) W L) : WLQ P ops Q (⟨some d0, op, ty, pos, af, some (j, b)⟩ :: rest) N l W L := fun a K => by
  have hy : yielded ops a.tmps j ≠ some b := by
    have := K.val d _ hv
    simp only [yielded, hj, Option.bind_some]
    rw [Array.getD_eq_getD_getElem?] at this
    cases hg : a.tmps[d]? with
    | none => simp
    | some u =>
      rw [hg] at this
      simp only [Option.getD_some] at this
      subst this
      cases u <;> simp
      intro e
      subst e
      simp at hb
  unfold wpQuiet
  rw [if_neg (by simp [Region.wanted, hy])]
  exact h _ (K.put hd _)
end Qt
end
theorem qP {N : FN} {l : Fr} {W : World} {L L' : List Res} {Q : Exit → Act → World → Prop} {e : Exit} (hp : L.Perm L') (h : WQ Q e N l W L') : WQ Q e N l W L := q_conv (fun w S => S.perm hp) h
theorem cP {P : Program} {N : FN} {l : Fr} {W : World} {L L' : List Res} {Q : Exit → Act → World → Prop} {c : Code} (hp : L.Perm L') (h : WC P c Q N l W L') : WC P c Q N l W L := c_conv (fun w S => S.perm hp) h
theorem qT {N : FN} {l : Fr} {W : World} {A : Res} {L : List Res} {Q : Exit → Act → World → Prop} {e : Exit} (h : WQ Q e N l W L) : WQ Q e N l W (A :: L) := q_conv (fun w S => S.tail) h
theorem vr {α : Type} {a b : α} (h : a = b := by first | rfl | exact vint (by omega)) : a = b := h
end
section
set_option linter.unusedVariables false
set_option linter.unusedSimpArgs false
open Go.RowKit
/-- The values of a literal's parts, each at its place. -/
def oppsFrom (l : Fr) : Nat → List (Nat × Operand) → Option (List Value)
  | _, [] => some []
  | i, (j, x) :: ps => if i = j then match opv l x, oppsFrom l (i + 1) ps with
      | some v, some vs => some (v :: vs)
      | _, _ => none
    else none
theorem opps_map {a : Act} {N : FN} {l : Fr} (K : Know a N l) : ∀ {ps : List (Nat × Operand)} {i : Nat} {vs : List Value}, oppsFrom l i ps = some vs → ps.map (fun p => (p.1, a.eval p.2)) = (vs.zipIdx i).map fun p => (p.2, p.1)
  | [], i, vs, h => by simp only [oppsFrom, Option.some.injEq] at h; subst h; rfl
  | (j, x) :: ps, i, vs, h => by
    simp only [oppsFrom] at h
    split at h
    · rename_i e
      subst e
      split at h
      · rename_i v vs' h1 h2
        simp only [Option.some.injEq] at h
        subst h
        simp [K.eval h1, opps_map K h2]
      · cases h
    · cases h
theorem setSeg (off : Nat) : ∀ (vs : List Value) (i : Nat) (cs : Array Value), off + i + vs.length ≤ cs.size →
    ((vs.zipIdx i).foldl (fun cs (p : Value × Nat) => cs.setIfInBounds (off + p.2) p.1) cs).toList = cs.toList.take (off + i) ++ vs ++ cs.toList.drop (off + i + vs.length)
  | [], i, cs, h => by simp
  | v :: vs, i, cs, h => by
    simp only [List.length_cons] at h
    simp only [List.zipIdx_cons, List.foldl_cons]
    rw [setSeg off vs (i + 1) _ (by simp; omega)]
    simp only [Array.toList_setIfInBounds, List.length_cons]
    have hlt : off + i < cs.toList.length := by simp; omega
    rw [List.take_set, List.drop_set_of_lt (by omega)]
    rw [show off + (i + 1) = off + i + 1 by omega, List.take_add_one, List.getElem?_eq_getElem hlt]
    simp only [Option.toList_some]
    rw [List.set_append_right _ _ (by rw [List.length_take]; omega)]
    rw [List.length_take, Nat.min_eq_left (by omega), Nat.sub_self]
    simp [show off + i + 1 + vs.length = off + i + (vs.length + 1) by omega]
theorem fillSeq (s : Nat) : ∀ (vs : List Value) (i : Nat) (cs : Array Value), cs.size = (i + vs.length) * s → (∀ v ∈ vs, v.cells.size = s) →
    Instr.fill (fun i => some (i * s, s)) cs ((vs.zipIdx i).map fun p => (p.2, p.1)) = some (cs.toList.take (i * s) ++ vs.flatMap (fun v => v.cells.toList)).toArray
  | [], i, cs, h, _ => by
    simp only [List.length_nil, Nat.add_zero] at h
    have : cs.toList.take (i * s) = cs.toList := List.take_of_length_le (by simp [h])
    simp [Instr.fill, this]
  | v :: vs, i, cs, h, hv => by
    have hs := hv v (by simp)
    simp only [List.length_cons] at h
    have hle : i * s + s ≤ cs.size := by
      rw [h, show i + (vs.length + 1) = (i + 1) + vs.length by omega, Nat.add_mul, Nat.add_mul]; omega
    simp only [List.zipIdx_cons, List.map_cons, Instr.fill]
    rw [if_neg (by simp [hs]; omega)]
    have hseg := setSeg (i * s) v.cells.toList 0 cs (by simp [hs]; omega)
    have hz : (v.cells.zipIdx.foldl (fun cs (p : Value × Nat) => cs.setIfInBounds (i * s + p.2) p.1) cs) = (cs.toList.take (i * s) ++ v.cells.toList ++ cs.toList.drop (i * s + s)).toArray := by
      apply Array.toList_inj.1
      rw [← Array.foldl_toList, Array.toList_zipIdx]
      simpa [hs] using hseg
    rw [hz, fillSeq s vs (i + 1) _ _ (fun u hu => hv u (by simp [hu]))]
    · congr 1
      rw [Nat.add_mul, Nat.one_mul]
      have hl : (cs.toList.take (i * s) ++ v.cells.toList).length = i * s + s := by simp [hs]; omega
      simp only [List.flatMap_cons]
      rw [← List.append_assoc]
      congr 1
      rw [← hl, List.take_left]
    · have e1 : (i + (vs.length + 1)) * s = i * s + vs.length * s + s := by rw [Nat.add_mul, Nat.add_mul]; omega
      have e2 : (i + 1 + vs.length) * s = i * s + vs.length * s + s := by rw [Nat.add_mul, Nat.add_mul]; omega
      rw [e1] at h
      simp [hs, e2]
      omega
section
variable {P : Program} {N : FN} {l : Fr} {W : World} {L L0 : List Res} {Q : Exit → Act → World → Prop} {ops : Array Oper} {rest : List Oper}
variable {d : Nat} {ty : TypeId} {pos : String} {af : Array Edge}
theorem o_lit {α : Type} {e : Enc α} {t n : Nat} {parts : Array (Nat × Operand)} {vs : List Value} (ok : EncOk P e) (hd : Nat.ble (d + 1) N = true) (ht : P.underlying t = some (.slice e.T)) (hp : oppsFrom l 0 parts.toList = some vs) (hn : vs.length = n) (hb : Nat.ble (n * e.sz) 16777216 = true)
    (hs : ∀ v ∈ vs, v.cells.size = e.sz) (xs : List α) (hx : vs.flatMap (fun v => v.cells.toList) = flat e xs) (hxl : xs.length = n)
    (h : ∀ a, WL P ops Q rest N ((d, .slice a xs.length n) :: l) W (row e.T e.sz a xs.length n (flat e xs) :: L)) : WL P ops Q (⟨some d, .buildSlice t n parts, ty, pos, af, none⟩ :: rest) N l W L :=
  o_runx (α := Option Addr) hd (vv := fun a => .slice a xs.length n) (LL := fun a => row e.T e.sz a xs.length n (flat e xs) :: L) (fun a w K S => by
    have hps : (parts.map fun (p : Nat × Operand) => (p.1, a.eval p.2)).toList = (vs.zipIdx 0).map fun p => (p.2, p.1) := by
      have := opps_map K hp
      simpa using this
    subst hn
    have hz : ∀ z : Array Value, ((Array.range (vs.length * e.sz)).map (fun i => z[i % z.size]!)).size = (0 + vs.length) * e.sz := fun z => by simp
    refine ⟨some ⟨w.heap.size, 0, none⟩, w.alloc (.cells (flat e xs).toArray e.T), ?_, ?_⟩
    · have hfill := fun z : Array Value => fillSeq e.sz vs 0 ((Array.range (vs.length * e.sz)).map (fun i => z[i % z.size]!)) (hz z) hs
      simp only [Nat.zero_mul, List.take_zero, List.nil_append, hx] at hfill
      have hle : ¬ 16777216 < vs.length * e.sz := by have := Nat.le_of_ble_eq_true hb; omega
      have hfill' : ∀ z : Array Value, Instr.fill (fun i => some (i * e.sz, e.sz)) ((Array.range (vs.length * e.sz)).map (fun i => z[i % z.size]!)) (parts.map fun (p : Nat × Operand) => (p.1, a.eval p.2)).toList = some (flat e xs).toArray := fun z => by
        rw [hps]; exact hfill z
      have hbuild : (Instr.buildSlice t vs.length (parts.map fun (p : Nat × Operand) => (p.1, a.eval p.2))).run P w = .ok (.slice (some ⟨w.heap.size, 0, none⟩) vs.length vs.length) (w.alloc (.cells (flat e xs).toArray e.T)) := by
        unfold Instr.buildSlice
        rw [Sem.run_bind, run_underlying ht, Result.andThen_ok]
        dsimp only
        rw [Sem.run_bind, run_sizeOf' ok.ti, Result.andThen_ok]
        rw [if_neg (by omega)]
        by_cases h0 : vs.length * e.sz = 0
        · rw [if_pos h0, Sem.run_bind, Sem.run_pure, Result.andThen_ok, hfill' #[]]
          simp [newRow]
        · rw [if_neg h0, Sem.run_bind, run_zeroValue' ok.ti, Result.andThen_ok, Sem.run_bind, Sem.run_pure, Result.andThen_ok, hfill' e.z.cells]
          simp [newRow]
      simp only [execOp]
      rw [Sem.run_bind]
      rw [hxl]
      first
        | (rw [hbuild]; rfl)
        | (erw [hbuild]; rfl)
    · rw [hxl]
      have hfl := flat_length ok xs
      refine (S.alloc _).own_mk (Nat.le_refl _) ?_ ?_ ?_
      · have := Nat.le_of_ble_eq_true hb
        have h2 := Nat.le_mul_of_pos_right vs.length ok.pos
        simp only [maxLen]; omega
      · simp [hfl, hxl]
      · simp [← hxl, ← hfl]) h
theorem lit_ok {vs : List Value} {n : Nat} (h : vs.all (fun v => v.cells.size == n) = true) : ∀ v ∈ vs, v.cells.size = n := fun v hv => by
  have := List.all_eq_true.1 h v hv
  simpa using this
theorem l_nilrow {α : Type} (e : Enc α) (h : WL P ops Q rest N l W (row e.T e.sz none ([] : List α).length 0 (flat e []) :: L)) : WL P ops Q rest N l W L := l_conv (fun w S => S.own_nil) h
theorem c_nilrow {α : Type} {c : Code} (e : Enc α) (h : WC P c Q N l W (row e.T e.sz none ([] : List α).length 0 (flat e []) :: L)) : WC P c Q N l W L := c_conv (fun w S => S.own_nil) h
def placesOf (fs : Array Field) : Sem (Array (Nat × Nat)) := fs.mapM fun f => do pure (f.offset, ← sizeOf f.type)
structure StructP (P : Program) (t : TypeId) (places : Array (Nat × Nat)) : Prop where
  is : ∃ fs, P.underlying t = some (.struct fs) ∧ ∀ w, (placesOf fs).run P w = .ok places w
def oppsAny (l : Fr) : List (Nat × Operand) → Option (List (Nat × Value))
  | [] => some []
  | (j, x) :: ps => match opv l x, oppsAny l ps with
    | some v, some vs => some ((j, v) :: vs)
    | _, _ => none
theorem oppsAny_map {a : Act} {N : FN} {l : Fr} (K : Know a N l) : ∀ {ps : List (Nat × Operand)} {vs : List (Nat × Value)}, oppsAny l ps = some vs → ps.map (fun p => (p.1, a.eval p.2)) = vs
  | [], vs, h => by simp only [oppsAny, Option.some.injEq] at h; subst h; rfl
  | (j, x) :: ps, vs, h => by
    simp only [oppsAny] at h
    split at h
    · rename_i v vs' h1 h2
      simp only [Option.some.injEq] at h
      subst h
      simp [K.eval h1, oppsAny_map K h2]
    · cases h
theorem fill_nil {place : Nat → Option (Nat × Nat)} {cells : Array Value} : Instr.fill place cells [] = some cells := rfl
theorem fill_cons {place : Nat → Option (Nat × Nat)} {zs cells' out : List Value} {j off sz : Nat} {v : Value} {ps : List (Nat × Value)} (hp : place j = some (off, sz)) (hs : v.cells.size = sz) (hle : Nat.ble (off + sz) zs.length = true)
    (hc : zs.take off ++ v.cells.toList ++ zs.drop (off + sz) = cells') (h : Instr.fill place cells'.toArray ps = some out.toArray) : Instr.fill place zs.toArray ((j, v) :: ps) = some out.toArray := by
  have hle' := Nat.le_of_ble_eq_true hle
  simp only [Instr.fill, hp]
  rw [if_neg (by simp [hs]; omega)]
  have hseg := setSeg off v.cells.toList 0 zs.toArray (by simp [hs]; omega)
  have hz : (v.cells.zipIdx.foldl (fun cs (p : Value × Nat) => cs.setIfInBounds (off + p.2) p.1) zs.toArray) = cells'.toArray := by
    apply Array.toList_inj.1
    rw [← Array.foldl_toList, Array.toList_zipIdx]
    simpa [hs, hc] using hseg
  rw [hz]
  exact h
theorem o_build {t : TypeId} {parts : Array (Nat × Operand)} {places : Array (Nat × Nat)} {z : Value} {s b : Nat} {vps : List (Nat × Value)} {cells : Array Value} (hd : Nat.ble (d + 1) N = true) (hst : StructP P t places) (hz : TI P t z s b) (hp : oppsAny l parts.toList = some vps)
    (hf : Instr.fill (places[·]?) z.cells vps = some cells) (h : WL P ops Q rest N ((d, .agg cells) :: l) W L) : WL P ops Q (⟨some d, .build t parts, ty, pos, af, none⟩ :: rest) N l W L :=
  o_val hd (fun a w K S => by
    obtain ⟨fs, hu, hpl⟩ := hst.is
    have hps : (parts.map fun (p : Nat × Operand) => (p.1, a.eval p.2)).toList = vps := by
      have := oppsAny_map K hp
      simpa using this
    have hb : (Instr.build t (parts.map fun (p : Nat × Operand) => (p.1, a.eval p.2))).run P w = .ok (.agg cells) w := by
      unfold Instr.build
      rw [Sem.run_bind, run_zeroValue' hz, Result.andThen_ok]
      dsimp only
      rw [Sem.run_bind, run_underlying hu, Result.andThen_ok]
      dsimp only
      rw [Sem.run_bind]
      have := hpl w
      unfold placesOf at this
      rw [this, Result.andThen_ok, hps, hf]
      rfl
    simp only [execOp]
    rw [Sem.run_bind]
    first
      | (rw [hb]; rfl)
      | (erw [hb]; rfl)) h
def bts (xs : List UInt8) : ByteArray := ⟨xs.toArray⟩
theorem bts_inj {xs ys : List UInt8} (h : bts xs = bts ys) : xs = ys := by
  have := congrArg ByteArray.data h
  simpa [bts] using this
theorem bts_eq {xs ys : List UInt8} : bts xs = bts ys ↔ xs = ys := ⟨bts_inj, fun h => by rw [h]⟩
theorem push_bts : ∀ (xs : List UInt8) (s : List UInt8), (xs.map (fun x => (x.toNat : Int))).foldl (fun r n => ByteArray.push r (UInt8.ofNat n.toNat)) (bts s) = bts (s ++ xs)
  | [], s => by simp
  | x :: xs, s => by
    rw [List.map_cons, List.foldl_cons]
    have h1 : (bts s).push (UInt8.ofNat ((x.toNat : Int)).toNat) = bts (s ++ [x]) := by
      simp [bts, ByteArray.push]
    rw [h1, push_bts xs (s ++ [x])]
    simp
theorem flat_bytes {e : Enc UInt8} (hc : e.cells = fun x => [.int .u8 (x.toNat : Int)]) (xs : List UInt8) : flat e xs = (xs.map (fun x => (x.toNat : Int))).map (Value.int .u8) := by
  simp only [flat, hc, List.map_map]
  induction xs with
  | nil => rfl
  | cons y ys ih => simp [ih]
theorem o_bytesStr {e : Enc UInt8} {s t : TypeId} {x : Operand} {a : Option Addr} {c : Nat} {xs : List UInt8} (hc : e.cells = fun x => [.int .u8 (x.toNat : Int)]) (hd : Nat.ble (d + 1) N = true) (hx : opv l x = some (.slice a xs.length c)) (hs : P.underlying s = some (.slice e.T)) (hT : P.underlying e.T = some (.int .u8)) (ht : P.underlying t = some .string) (hr : RdS W L e a xs)
    (h : WL P ops Q rest N ((d, .string (bts xs)) :: l) W L) : WL P ops Q (⟨some d, .convert s t x, ty, pos, af, none⟩ :: rest) N l W L :=
  o_val hd (fun b w K S => by
    have hv : (convert s t (.slice a xs.length c)).run P w = .ok (.string (bts xs)) w := by
      cases a with
      | none =>
        have hn : xs = [] := rds_nilq hr w S rfl
        subst hn
        exact run_convert_bytes_nil w s e.T hs hT _ _ t ht
      | some ad =>
        rw [run_convert_bytes_string w s t e.T _ _ _ hs hT ht]
        have hf := flat_bytes hc xs
        have hl : (loadCells ad xs.length).run P w = .ok ((xs.map (fun x => (x.toNat : Int))).map (Value.int .u8)).toArray w := by
          by_cases h0 : xs = []
          · subst h0; simp [loadCells, loadCellsFrom]
          · obtain ⟨ad', he, hc'⟩ := hr w S h0
            cases he
            have := run_loadCells_list (P := P) w ad ((xs.map (fun x => (x.toNat : Int))).map (Value.int .u8)) (fun j v hj => hc' j v (by rw [hf]; exact hj))
            simpa using this
        rw [run_bytesToString w ad _ c _ hl]
        have h9 := push_bts xs []
        rw [List.nil_append] at h9
        show Result.ok (Value.string _) w = _
        rw [← h9]
        rfl
    simp only [execOp, K.eval hx]
    rw [Sem.run_bind, hv]; rfl) h
/-- A row that bears a mark: it is read alone. -/
def mrow (T sz : Nat) (a : Option Addr) (n c : Nat) (cs : List Value) : Res := fun h =>
  cs.length = n * sz ∧ ∃ g cur m, a = some ⟨g, 0, none⟩ ∧ cur.toList.take (n * sz) = cs ∧ blk g (.cells cur T m) h
theorem rds_mrow {α : Type} {e : Enc α} {a : Option Addr} {xs : List α} {c : Nat} (ok : EncOk P e) (i : Nat) (h : L[i]? = some (mrow e.T e.sz a xs.length c (flat e xs))) : RdS W L e a xs := fun w S hne => by
  obtain ⟨L', S'⟩ := mem_front (List.mem_of_getElem? h) S
  obtain ⟨y, ⟨x, b, hd, he, ⟨hl, g, cur, m, rfl, ht, hb⟩, hb2⟩, hy⟩ := S'.own
  refine ⟨_, rfl, fun j u hj => ?_⟩
  have hrd : Sat W w (blk g (.cells cur e.T m) :: L') := ⟨S'.below, S'.dr, y, ⟨x, b, hd, he, hb, hb2⟩, hy⟩
  rw [Addr.add_mk, Nat.zero_add, hrd.cell]
  rw [← ht, List.getElem?_take] at hj
  split at hj
  · simpa using hj
  · cases hj
theorem icast {o : Operand} {k : IntKind} {q : Int} {m : Nat} (h : opv l o = some (.int k q)) (e : q = (m : Int)) : opv l o = some (.int k (m : Int)) := e ▸ h
/-- A piece of a list. -/
def sub {α : Type} (xs : List α) (l h : Nat) : List α := (xs.take h).drop l
theorem sub_len {α : Type} {xs : List α} {l h : Nat} (hh : h ≤ xs.length) : (sub xs l h).length = h - l := by simp [sub]; omega
theorem flat_drop {α : Type} {e : Enc α} (ok : EncOk P e) : ∀ (xs : List α) (k : Nat), flat e (xs.drop k) = (flat e xs).drop (k * e.sz)
  | [], k => by simp [flat]
  | x :: xs, 0 => by simp
  | x :: xs, k + 1 => by
    rw [List.drop_succ_cons, flat_drop ok xs k]
    show _ = (e.cells x ++ flat e xs).drop _
    have h1 : (k + 1) * e.sz = (e.cells x).length + k * e.sz := by rw [ok.len, Nat.add_mul]; omega
    rw [h1, List.drop_length_add_append]
theorem flat_take {α : Type} {e : Enc α} (ok : EncOk P e) : ∀ (xs : List α) (k : Nat), flat e (xs.take k) = (flat e xs).take (k * e.sz)
  | [], k => by simp [flat]
  | x :: xs, 0 => by simp [flat]
  | x :: xs, k + 1 => by
    rw [List.take_succ_cons]
    show e.cells x ++ flat e (xs.take k) = (e.cells x ++ flat e xs).take _
    have h1 : (k + 1) * e.sz = (e.cells x).length + k * e.sz := by rw [ok.len, Nat.add_mul]; omega
    rw [h1, List.take_length_add_append, flat_take ok xs k]
theorem rds_cut {α : Type} {e : Enc α} {a : Option Addr} {xs : List α} (ok : EncOk P e) (hr : RdS W L e a xs) (l' h' m : Nat) (hm : h' ≤ m) : RdS W L e (cutA a m l' e.sz) (sub xs l' h') := fun w S hne => by
  have hx : xs ≠ [] := fun h0 => hne (by simp [sub, h0])
  obtain ⟨ad, rfl, hc⟩ := hr w S hx
  by_cases hml : m = l'
  · exact absurd (List.eq_nil_of_length_eq_zero (by simp [sub]; omega)) hne
  · refine ⟨ad.add (l' * e.sz), by simp [cutA, hml], fun j u hj => ?_⟩
    rw [Addr.add_add']
    refine hc _ _ ?_
    rw [sub, flat_drop ok, flat_take ok, List.getElem?_drop, List.getElem?_take] at hj
    split at hj
    · exact hj
    · cases hj
theorem cutA_zero {g m sz : Nat} : cutA (some ⟨g, 0, none⟩) m 0 sz = some ⟨g, 0, none⟩ := by
  unfold cutA
  split
  · rfl
  · simp [Addr.add_mk]
theorem cutA_none {m lo sz : Nat} : cutA none m lo sz = none := by unfold cutA; split <;> rfl
end
end
section
set_option linter.unusedVariables false
set_option linter.unusedSimpArgs false
open Go.RowKit
section
variable {P : Program} {N : FN} {l : Fr} {W : World} {L L0 : List Res} {Q : Exit → Act → World → Prop} {ops : Array Oper} {rest : List Oper}
variable {d : Nat} {ty : TypeId} {pos : String} {af : Array Edge} {κ β : Type} {kv : κ → Value} {vv : β → Value} {k : Nat} {D : List (κ × β)}
theorem v_move {x : Operand} {v : Value} (hd : Nat.ble (d + 1) N = true) (hx : opv l x = some v) :
    OV P N l W L ⟨some d, .move x, ty, pos, af, none⟩ (v) := (fun a w K _ => by simp [execOp, K.eval hx])
theorem v_assign {x : Operand} {v : Value} (hd : Nat.ble (d + 1) N = true) (hx : opv l x = some v) :
    OV P N l W L ⟨some d, .assign x, ty, pos, af, none⟩ (v) := (fun a w K _ => by simp [execOp, K.eval hx])
theorem v_pick_true {c x y : Operand} {v : Value} (hd : Nat.ble (d + 1) N = true) (hc : opv l c = some (.bool true)) (hx : opv l x = some v) :
    OV P N l W L ⟨some d, .pick c x y, ty, pos, af, none⟩ (v) := (fun a w K _ => by simp [execOp, K.eval hx, K.eval hc, asBool])
theorem v_pick_false {c x y : Operand} {v : Value} (hd : Nat.ble (d + 1) N = true) (hc : opv l c = some (.bool false)) (hy : opv l y = some v) :
    OV P N l W L ⟨some d, .pick c x y, ty, pos, af, none⟩ (v) := (fun a w K _ => by simp [execOp, K.eval hy, K.eval hc, asBool])
theorem v_nil {x : Operand} {p : Addr} (hd : Nat.ble (d + 1) N = true) (hx : opv l x = some (.pointer (some p))) :
    OV P N l W L ⟨some d, .nilCheck x, ty, pos, af, none⟩ (.pointer (some p)) := (fun a w K _ => by simp [execOp, K.eval hx])
theorem v_bin {op : BinOp} {t yt : TypeId} {x y : Operand} {a b r : Value} (hd : Nat.ble (d + 1) N = true) (hx : opv l x = some a) (hy : opv l y = some b) (hr : BinV P op t x y a b r) :
    OV P N l W L ⟨some d, .binOp op t x y yt, ty, pos, af, none⟩ (r) := (fun a w K _ => by
    have := hr w
    rw [Sem.run_bind] at this
    simp only [execOp, K.eval hx, K.eval hy]
    rw [Sem.run_bind, Sem.run_bind, this]
    rfl)
theorem v_not {t : TypeId} {x : Operand} {b : Bool} (hd : Nat.ble (d + 1) N = true) (hx : opv l x = some (.bool b)) :
    OV P N l W L ⟨some d, .unOp .not t x, ty, pos, af, none⟩ (.bool (!b)) := (fun a w K _ => by simp [execOp, K.eval hx, Op.unary])
theorem v_int {s t : TypeId} {x : Operand} {k k2 : IntKind} {n r : Int} {sd : TypeDesc} (hd : Nat.ble (d + 1) N = true) (hx : opv l x = some (.int k n)) (hs : P.underlying s = some sd) (ht : P.underlying t = some (.int k2)) (hr : k2.wrap n = r) :
    OV P N l W L ⟨some d, .convert s t x, ty, pos, af, none⟩ (.int k2 r) := (fun a w K _ => by
    simp only [execOp, K.eval hx, convert]
    cases sd <;> simp [run_underlying hs, run_underlying ht, Conv.intToInt, hr])
theorem v_extract {x : Operand} {vs : Array Value} {i : Nat} {v : Value} (hd : Nat.ble (d + 1) N = true) (hx : opv l x = some (.tuple vs)) (hv : vs[i]? = some v) :
    OV P N l W L ⟨some d, .extract x i, ty, pos, af, none⟩ (v) := (fun a w K _ => by simp [execOp, K.eval hx, Instr.extract, hv])
theorem v_fieldAddr {t : TypeId} {x : Operand} {i : Nat} {p q : Addr} {fs : Array Field} {f : Field} {z : Value} {s b : Nat} (hd : Nat.ble (d + 1) N = true) (hx : opv l x = some (.pointer (some p))) (ht : P.underlying t = some (.struct fs)) (hf : fs[i]? = some f)
    (hi : TI P f.type z (s + 1) b) (hp : p.add f.offset = q) :
    OV P N l W L ⟨some d, .fieldAddr t x i, ty, pos, af, none⟩ (.pointer (some q)) := (fun a w K _ => by simp [execOp, K.eval hx, Instr.fieldAt, run_underlying ht, hf, Instr.sureAddr, fieldPlace, run_sizeOf' hi, hp])
theorem v_len {t e : TypeId} {x : Operand} {p : Option Addr} {n c : Nat} (hd : Nat.ble (d + 1) N = true) (hx : opv l x = some (.slice p n c)) (ht : P.underlying t = some (.slice e)) :
    OV P N l W L ⟨some d, .call { callee := .builtin .len, args := #[x], argTypes := #[t] }, ty, pos, af, none⟩ (.int .i64 (n : Int)) := (fun a w K _ => by simp [execOp, resolve, invoke, builtin, K.eval hx, Builtin.len_, run_underlying ht, goInt])
theorem v_load1 {t : TypeId} {x : Operand} {p : Addr} {td : TypeDesc} {v : Value} (hd : Nat.ble (d + 1) N = true) (hx : opv l x = some (.pointer (some p))) (hu : P.underlying t = some td) (ha : aggD td = false) (hr : Rd W L p v) :
    OV P N l W L ⟨some d, .load t x, ty, pos, af, none⟩ (v) := (fun a w K S => by simp [execOp, K.eval hx, Instr.loadAt, Instr.sureAddr, loadVar, run_isAgg hu, ha, hr w S])
theorem v_loadn {t : TypeId} {x : Operand} {p : Addr} {td : TypeDesc} {z : Value} {b : Nat} {vs : List Value} (hd : Nat.ble (d + 1) N = true) (hx : opv l x = some (.pointer (some p))) (hu : P.underlying t = some td) (ha : aggD td = true) (hi : TI P t z vs.length b) (hr : RdN W L p vs) :
    OV P N l W L ⟨some d, .load t x, ty, pos, af, none⟩ (.agg vs.toArray) := (fun a w K S => by
    have := run_loadCells_list (P := P) w p vs (hr w S)
    simp [execOp, K.eval hx, Instr.loadAt, Instr.sureAddr, loadVar, run_isAgg hu, ha, run_sizeOf' hi, this])
theorem v_indexK {α : Type} {e : Enc α} {t : TypeId} {x y : Operand} {a : Option Addr} {ad : Addr} {n c : Nat} {k : IntKind} {q : Int} (ok : EncOk P e) (ea : a = some ad) (hd : Nat.ble (d + 1) N = true) (hx : opv l x = some (.slice a n c)) (hy : opv l y = some (.int k q)) (ht : P.underlying t = some (.slice e.T))
    (h0 : 0 ≤ q) (h1 : q < n) :
    OV P N l W L ⟨some d, .indexAddr t x y, ty, pos, af, none⟩ (.pointer (some (ad.add (q.toNat * e.sz)))) := (fun b w K S => by
    subst ea
    simp [execOp, K.eval hx, K.eval hy, Instr.indexAt, asIntOf, run_underlying ht, h0, h1, run_sizeOf' ok.ti])
theorem v_cut {t e : Nat} {x : Operand} {lo hi mx : Option Operand} {a : Option Addr} {n c l' h' m : Nat} {z : Value} {s b : Nat} (hd : Nat.ble (d + 1) N = true) (hx : opv l x = some (.slice a n c)) (ht : P.underlying t = some (.slice e)) (hi' : TI P e z s b)
    (hm : (mx = none ∧ m = c) ∨ ∃ o k, mx = some o ∧ opv l o = some (.int k (m : Int)) ∧ m ≤ c) (hh : (hi = none ∧ mx = none ∧ h' = n) ∨ ∃ o k, hi = some o ∧ opv l o = some (.int k (h' : Int)) ∧ h' ≤ m) (hl : (lo = none ∧ l' = 0) ∨ ∃ o k, lo = some o ∧ opv l o = some (.int k (l' : Int)) ∧ l' ≤ h') :
    OV P N l W L ⟨some d, .slice t x lo hi mx, ty, pos, af, none⟩ (.slice (cutA a m l' s) (h' - l') (m - l')) := (fun w0 w K S => by
    have hb : (Instr.sliceBounds true n c (lo.map w0.eval) (hi.map w0.eval) (mx.map w0.eval)).run P w = .ok (l', h', m) w := by
      unfold Instr.sliceBounds
      rcases hm with ⟨rfl, rfl⟩ | ⟨om, km, rfl, hom, hmc⟩ <;> rcases hh with ⟨rfl, hx2, rfl⟩ | ⟨oh, kh, rfl, hoh, hhm⟩ <;> rcases hl with ⟨rfl, rfl⟩ | ⟨ol, kl, rfl, hol, hlh⟩ <;>
        first
        | (cases hx2; done)
        | simp_all [Instr.sliceBound, asIntOf, K.eval, Int.ofNat_le]
    simp only [execOp, K.eval hx, Instr.sliceAt, Instr.slice, Sem.run_bind, run_underlying ht, Result.andThen_ok]
    simp only [Sem.run_bind, run_underlying ht, Result.andThen_ok, hb, run_sizeOf' hi', cutA]
    simp)
theorem v_build {t : TypeId} {parts : Array (Nat × Operand)} {places : Array (Nat × Nat)} {z : Value} {s b : Nat} {vps : List (Nat × Value)} {cells : Array Value} (hd : Nat.ble (d + 1) N = true) (hst : StructP P t places) (hz : TI P t z s b) (hp : oppsAny l parts.toList = some vps)
    (hf : Instr.fill (places[·]?) z.cells vps = some cells) :
    OV P N l W L ⟨some d, .build t parts, ty, pos, af, none⟩ (.agg cells) := (fun a w K S => by
    obtain ⟨fs, hu, hpl⟩ := hst.is
    have hps : (parts.map fun (p : Nat × Operand) => (p.1, a.eval p.2)).toList = vps := by
      have := oppsAny_map K hp
      simpa using this
    have hb : (Instr.build t (parts.map fun (p : Nat × Operand) => (p.1, a.eval p.2))).run P w = .ok (.agg cells) w := by
      unfold Instr.build
      rw [Sem.run_bind, run_zeroValue' hz, Result.andThen_ok]
      dsimp only
      rw [Sem.run_bind, run_underlying hu, Result.andThen_ok]
      dsimp only
      rw [Sem.run_bind]
      have := hpl w
      unfold placesOf at this
      rw [this, Result.andThen_ok, hps, hf]
      rfl
    simp only [execOp]
    rw [Sem.run_bind]
    first
      | (rw [hb]; rfl)
      | (erw [hb]; rfl))
theorem v_bytesStr {e : Enc UInt8} {s t : TypeId} {x : Operand} {a : Option Addr} {c : Nat} {xs : List UInt8} (hc : e.cells = fun x => [.int .u8 (x.toNat : Int)]) (hd : Nat.ble (d + 1) N = true) (hx : opv l x = some (.slice a xs.length c)) (hs : P.underlying s = some (.slice e.T)) (hT : P.underlying e.T = some (.int .u8)) (ht : P.underlying t = some .string) (hr : RdS W L e a xs) :
    OV P N l W L ⟨some d, .convert s t x, ty, pos, af, none⟩ (.string (bts xs)) := (fun b w K S => by
    have hv : (convert s t (.slice a xs.length c)).run P w = .ok (.string (bts xs)) w := by
      cases a with
      | none =>
        have hn : xs = [] := rds_nilq hr w S rfl
        subst hn
        exact run_convert_bytes_nil w s e.T hs hT _ _ t ht
      | some ad =>
        rw [run_convert_bytes_string w s t e.T _ _ _ hs hT ht]
        have hf := flat_bytes hc xs
        have hl : (loadCells ad xs.length).run P w = .ok ((xs.map (fun x => (x.toNat : Int))).map (Value.int .u8)).toArray w := by
          by_cases h0 : xs = []
          · subst h0; simp [loadCells, loadCellsFrom]
          · obtain ⟨ad', he, hc'⟩ := hr w S h0
            cases he
            have := run_loadCells_list (P := P) w ad ((xs.map (fun x => (x.toNat : Int))).map (Value.int .u8)) (fun j v hj => hc' j v (by rw [hf]; exact hj))
            simpa using this
        rw [run_bytesToString w ad _ c _ hl]
        have h9 := push_bts xs []
        rw [List.nil_append] at h9
        show Result.ok (Value.string _) w = _
        rw [← h9]
        rfl
    simp only [execOp, K.eval hx]
    rw [Sem.run_bind, hv]; rfl)
end
end
section
set_option linter.unusedVariables false
set_option linter.unusedSimpArgs false
open Go.RowKit
def noDef (o : Oper) : Bool := match o.op with | .defer _ => false | _ => true
theorem semAt_nd {ro : Option Nat} {ρ : Operand → Value} {o : Oper} (h : noDef o = true) : o.semAt ro ρ = execOp ρ o :=
  Oper.semAt_eq _ _ _ fun c e => by simp [noDef, e] at h
def NoPan (Q : Exit → Act → World → Prop) : Exit → Act → World → Prop
  | .panic _, _, _ => False
  | e, a, w => Q e a w
theorem NoPan.imp {Q : Exit → Act → World → Prop} : ∀ (e : Exit) (a : Act) (w : World), NoPan Q e a w → Q e a w := fun e a w h => by
  cases e <;> first | exact h | exact (h : False).elim
section
variable {P : Program} {ops : Array Oper} {Q : Exit → Act → World → Prop} {md : Region.Mode} {S : World → Prop} {ro : Option Nat}
theorem YieldsIf.wpOpI {i : Nat} {o : Oper} {v : Value} {a : Act} (hi : ops[i]? = some o) (hnd : noDef o = true) (hy : YieldsIf P ops S o v a)
    {K : Act → World → Prop} {w : World} (hS : S w) (h : K (a.put o.dst v) w) : wpOpIn (fen ro) 0 P ops Q i K a w := by
  unfold Go.wpOpIn
  simp only [hi]
  rcases hy with ⟨hw, hv⟩ | ⟨hw, rfl⟩
  · simp only [hw, if_true, Oper.wpIn, semAt_nd hnd, hv w hS, Oper.uponIn]; exact ⟨fun _ _ => trivial, h⟩
  · simp only [hw, Bool.false_eq_true, if_false]; exact ⟨fun _ _ => trivial, h⟩
theorem wpOpI_put {j : Nat} {oi oj : Oper} {v : Value} (hj : ops[j]? = some oj) (hnd : noDef oj = true) (hap : oi.apart ops oj = true)
    (hsi : ∀ cs b, oi.op ≠ .select cs b) (hsj : ∀ cs b, oj.op ≠ .select cs b)
    (hQ : ∀ c a w, Q (.panic c) (a.put oi.dst v) w → Q (.panic c) a w) {K : Act → World → Prop} {a : Act} {w : World}
    (hy : YieldsIf P ops S oi v a) (h : wpOpIn (fen ro) 0 P ops Q j K (a.put oi.dst v) w) :
    wpOpIn (fen ro) 0 P ops Q j (fun a' w' => YieldsIf P ops S oi v a' ∧ K (a'.put oi.dst v) w') a w := by
  obtain ⟨h1, h2, h3⟩ := Oper.apart_spec hap
  have keep : ∀ (a : Act), YieldsIf P ops S oi v a → ∀ u, YieldsIf P ops S oi v (a.put oj.dst u) := fun a hy u =>
    hy.of_same (execOp_put oi hsi a oj.dst u h3) (wanted_put oi a oj.dst u h3)
  have keepD : ∀ d, YieldsIf P ops S oi v { a with defers := d :: a.defers } := fun d => hy.of_same rfl rfl
  unfold wpOpIn at *
  simp only [hj] at *
  rw [wanted_put oj a oi.dst v h1] at h
  split
  · rename_i hw
    simp only [hw, if_true] at h
    unfold Oper.wpIn at *
    refine ⟨fun _ _ => trivial, ?_⟩
    have h := h.2
    rw [semAt_nd hnd, execOp_put oj hsj a oi.dst v h1] at h
    rw [semAt_nd hnd]
    generalize (execOp a.eval oj).run P w = r at *
    cases r with
    | ok x w' =>
      cases x <;> simp only [Oper.uponIn] at h ⊢
      case value u => exact ⟨keep a hy u, by rw [← Act.put_comm a v u h2]; exact h⟩
      case skip => exact ⟨keep a hy _, by rw [← Act.put_comm a v undef h2]; exact h⟩
      case defer d =>
        refine ⟨keep _ (keepD d) _, ?_⟩
        rw [← Act.put_comm _ v undef h2, ← Act.put_defers]
        exact h
      case enter f args =>
        refine ⟨h.1, CallsIn.mono h.2 fun e w'' he => ?_⟩
        cases e with
        | returned u => exact ⟨keep a hy u, by rw [← Act.put_comm a v u h2]; exact he⟩
        | panicked c => exact hQ _ _ _ he
        | outgrown => exact he
      case row row args => exact ⟨h.1, RowsIn.mono h.2 fun u w'' he => ⟨keep a hy u, by rw [← Act.put_comm a v u h2]; exact he⟩⟩
      case round l f tmps assign body =>
        refine ⟨h.1, RoundIn.mono h.2 fun e w'' he => ?_⟩
        cases e with
        | returned u => exact ⟨keep a hy u, by rw [← Act.put_comm a v u h2]; exact he⟩
        | panicked c => exact hQ _ _ _ he
        | outgrown => exact he
    | halt x w' =>
      cases x <;> simp only [Oper.uponIn] at h ⊢
      case panic u => exact hQ _ _ _ h
  · rename_i hw
    simp only [hw] at h
    exact ⟨fun _ _ => trivial, keep a hy _, by rw [← Act.put_comm a v undef h2]; exact h.2⟩
def wpAnyI (ro : Option Nat) (P : Program) (md : Region.Mode) (ops : Array Oper) (Q : Exit → Act → World → Prop) (S : World → Prop) : Nat → Array Bool → Act → World → Prop
  | 0, listed, a, w => Region.ready md ops listed = [] ∧ Q .normal a w
  | fuel + 1, listed, a, w =>
    (Region.ready md ops listed = [] → Q .normal a w) ∧
    ∀ i ∈ Region.ready md ops listed, wpOpIn (fen ro) 0 P ops Q i (fun a' w' => S w' ∧ wpAnyI ro P md ops Q S fuel (listed.setIfInBounds i true) a' w') a w
theorem wpAny_of_I : ∀ (fuel : Nat) (listed : Array Bool) (a : Act) (w : World), wpAnyI ro P md ops Q S fuel listed a w → wpAnyIn (fen ro) 0 P md ops Q fuel listed a w
  | 0, _, _, _, h => h
  | fuel + 1, _, _, _, h => ⟨h.1, fun i hi => wpOpIn_mono (fun a' w' h' => wpAny_of_I fuel _ a' w' h'.2) (h.2 i hi)⟩
theorem wpAnyI_first {i : Nat} {oi : Oper} {v : Value} (hi : ops[i]? = some oi) (hnd : ∀ (j : Nat) (o : Oper), ops[j]? = some o → noDef o = true) (hsel : ∀ (j : Nat) (o : Oper) cs b, ops[j]? = some o → o.op ≠ .select cs b)
    (hQ : ∀ c a w, Q (.panic c) (a.put oi.dst v) w → Q (.panic c) a w) :
    ∀ (fuel : Nat) (listed : Array Bool) (a : Act) (w : World),
      (∀ j oj, ops[j]? = some oj → j ≠ i → listed.getD j true = false → (∀ e ∈ oj.after, Region.binds md e = true → e.on ≠ i) → oi.apart ops oj = true) →
      i ∈ Region.ready md ops listed → YieldsIf P ops S oi v a → S w →
      wpAnyI ro P md ops Q S fuel (listed.setIfInBounds i true) (a.put oi.dst v) w → wpAnyI ro P md ops Q S (fuel + 1) listed a w := by
  intro fuel
  induction fuel with
  | zero =>
    intro listed a w _ hr hy hS H
    refine ⟨fun h => (by rw [h] at hr; cases hr), fun j hj => ?_⟩
    by_cases hji : j = i
    · subst hji; exact YieldsIf.wpOpI hi (hnd _ _ hi) hy hS ⟨hS, H⟩
    · have := ready_mono hj hji
      rw [H.1] at this
      cases this
  | succ fuel ih =>
    intro listed a w hfree hr hy hS H
    refine ⟨fun h => (by rw [h] at hr; cases hr), fun j hj => ?_⟩
    by_cases hji : j = i
    · subst hji; exact YieldsIf.wpOpI hi (hnd _ _ hi) hy hS ⟨hS, H⟩
    · have h1 := H.2 j (ready_mono hj hji)
      obtain ⟨hjun, oj, hoj, hall⟩ := mem_ready.1 hj
      have hnot : ∀ e ∈ oj.after, Region.binds md e = true → e.on ≠ i := fun e he hb heq => by
        have h1 := hall e he hb
        have h0 := (mem_ready.1 hr).1
        rw [heq] at h1
        rcases Nat.lt_or_ge i listed.size with h' | h'
        · simp [h'] at h0 h1; rw [h0] at h1; cases h1
        · simp [Array.getElem?_eq_none h'] at h1
      have h2 := wpOpI_put hoj (hnd _ _ hoj) (hfree j oj hoj hji hjun hnot) (fun cs b => hsel i oi cs b hi) (fun cs b => hsel j oj cs b hoj) hQ hy h1
      have hfree' : ∀ k ok, ops[k]? = some ok → k ≠ i → (listed.setIfInBounds j true).getD k true = false →
          (∀ e ∈ ok.after, Region.binds md e = true → e.on ≠ i) → oi.apart ops ok = true := fun k ok hk hki hun hno => by
        refine hfree k ok hk hki ?_ hno
        by_cases hjk : j = k
        · subst hjk; exact hjun
        · rw [getD_set_ne true hjk] at hun; exact hun
      refine wpOpIn_mono (fun a' w' h3 => ⟨h3.2.1, ih (listed.setIfInBounds j true) a' w' hfree' (ready_mono hr (Ne.symm hji)) h3.1 h3.2.1 ?_⟩) h2
      rw [Array.setIfInBounds_comm _ _ hji]
      exact h3.2.2
theorem allNoDef {l : Array Oper} (h : l.toList.all noDef = true) : ∀ (j : Nat) (o : Oper), l[j]? = some o → noDef o = true := fun j o hj => by
  have h1 := List.all_eq_true.1 h o
  exact h1 (List.mem_of_getElem? (by simpa using hj))
theorem wpAnyI_take {i : Nat} {oi : Oper} {v : Value} {fuel : Nat} {listed : Array Bool} {a : Act} {w : World} (hnd : ops.toList.all noDef = true) (hi : ops[i]? = some oi)
    (hs : Region.noSelect ops = true) (hf : Region.free md ops listed i = true) (hr : (Region.ready md ops listed).contains i = true)
    (hQ : ∀ c a w, Q (.panic c) (a.put oi.dst v) w → Q (.panic c) a w) (hy : YieldsIf P ops S oi v a) (hS : S w)
    (h : wpAnyI ro P md ops Q S fuel (listed.setIfInBounds i true) (a.put oi.dst v) w) : wpAnyI ro P md ops Q S (fuel + 1) listed a w :=
  wpAnyI_first hi (allNoDef hnd) (Region.noSelect_spec hs) hQ fuel listed a w (Region.free_spec hi hf) (by simpa using hr) hy hS h
theorem wpAnyI_done {listed : Array Bool} {a : Act} {w : World} (hr : Region.ready md ops listed = []) (h : Q .normal a w) :
    ∀ fuel, wpAnyI ro P md ops Q S fuel listed a w
  | 0 => ⟨hr, h⟩
  | _ + 1 => ⟨fun _ => h, by rw [hr]; simp⟩
end
end
section
set_option linter.unusedVariables false
set_option linter.unusedSimpArgs false
open Go.RowKit
section
variable {P : Program} {N : FN} {l : Fr} {W : World} {L L' : List Res} {Q : Exit → Act → World → Prop} {ops : Array Oper}
/-- What is held throughout the region: these resources, ahead of whatever others. -/
def HS (W : World) (Bs : List Res) (w : World) : Prop := ∃ L0, Sat W w (Bs ++ L0)
def WH (P : Program) (ops : Array Oper) (Q : Exit → Act → World → Prop) (Bs : List Res) (fuel : Nat) (listed : Array Bool) (N : FN) (l : Fr) (W : World) (L : List Res) : Prop :=
  ∀ a w, Know a N l → Sat W w (Bs ++ L) → wpAnyI N.ro P .any ops (NoPan Q) (HS W Bs) fuel listed a w
def HQ (ro : Option Nat) (P : Program) (ops : Array Oper) (Q : Exit → Act → World → Prop) (Bs : List Res) (fuel : Nat) (listed : Array Bool) (W : World) : Exit → Act → World → Prop
  | .normal, a, w => HS W Bs w ∧ wpAnyI ro P .any ops (NoPan Q) (HS W Bs) fuel listed a w
  | e, a, w => NoPan Q e a w
theorem c_held {id : Nat} {ops : List Oper} (Bs : List Res) {L1 : List Res} (hm : P.follows .mixedOrders = true) (hL : Bs ++ L1 = L)
    (h : WH P ops.toArray Q Bs ops.length (Array.replicate ops.length false) N l W L1) : WC P (.region id ops.toArray true) Q N l W L := fun a w K S => by
  refine wpIn_mono (wpIn_region_any hm (wpAny_of_I (S := HS W Bs) _ _ _ _ ?_)) NoPan.imp
  have := h a { w with drawn := w.drawn + 1 } K (by rw [hL]; exact S.drew)
  simpa using this
theorem c_heldF {id : Nat} {ops : List Oper} (L1 Bs : List Res) (hm : P.follows .mixedOrders = true) (h : WH P ops.toArray Q Bs ops.length (Array.replicate ops.length false) N l W L1) : WC P (.region id ops.toArray true) Q N l W (L1 ++ Bs) := fun a w K S =>
  c_held Bs hm rfl h a w K (S.perm List.perm_append_comm)
theorem Sat.left {w : World} : ∀ {L0 L : List Res}, Sat W w (L ++ L0) → Sat W w L := fun {L0 L} S => by
  have h : ∀ (A B : List Res), Sat W w (A ++ B) → Sat W w B := fun A => by
    induction A with
    | nil => exact fun B h => h
    | cons a A ih => exact fun B h => ih B h.tail
  exact h L0 L (S.perm List.perm_append_comm)
theorem rds_app {α : Type} {e : Enc α} {a : Option Addr} {xs : List α} {L0 : List Res} (h : RdS W L e a xs) : RdS W (L ++ L0) e a xs := fun w S => h w S.left
theorem h_done {Bs : List Res} {fuel : Nat} {listed : Array Bool} (hr : Region.ready .any ops listed = []) (h : WQ Q .normal N l W (Bs ++ L)) : WH P ops Q Bs fuel listed N l W L := fun a w K S =>
  wpAnyI_done (Q := NoPan Q) hr (show NoPan Q .normal a w from h a w K S) fuel
theorem h_take {Bs : List Res} {fuel : Nat} {listed : Array Bool} (i : Nat) {d : Nat} {op : Op} {ty : TypeId} {pos : String} {af : Array Edge} {v : Value} (hi : ops[i]? = some ⟨some d, op, ty, pos, af, none⟩) (hd : Nat.ble (d + 1) N = true)
    (hs : (Region.noSelect ops && ops.toList.all noDef) = true) (hf : Region.free .any ops listed i = true) (hr : (Region.ready .any ops listed).contains i = true) (hv : ∀ L0, OV P N l W (Bs ++ L0) ⟨some d, op, ty, pos, af, none⟩ v)
    (h : WH P ops Q Bs fuel (listed.setIfInBounds i true) N ((d, v) :: l) W L) : WH P ops Q Bs (fuel + 1) listed N l W L := fun a w K S =>
  wpAnyI_take (by simp only [Bool.and_eq_true] at hs; exact hs.2) hi (by simp only [Bool.and_eq_true] at hs; exact hs.1) hf hr (fun c a w hp => hp.elim) (.inl ⟨by simp [Region.wanted], fun w' ⟨L0, S'⟩ => hv L0 a w' K S'⟩) ⟨L, S⟩ (h _ w (K.put hd v) S)
theorem h_take_yes {Bs : List Res} {fuel : Nat} {listed : Array Bool} (i : Nat) {d j dj : Nat} {b : Bool} {op : Op} {ty : TypeId} {pos : String} {af : Array Edge} {v : Value} (hi : ops[i]? = some ⟨some d, op, ty, pos, af, some (j, b)⟩) (hd : Nat.ble (d + 1) N = true)
    (hj : (ops[j]?).bind (·.dst) = some dj) (hg : lk l dj = some (.bool b)) (hdj : Nat.ble (dj + 1) N = true)
    (hs : (Region.noSelect ops && ops.toList.all noDef) = true) (hf : Region.free .any ops listed i = true) (hr : (Region.ready .any ops listed).contains i = true) (hv : ∀ L0, OV P N l W (Bs ++ L0) ⟨some d, op, ty, pos, af, none⟩ v)
    (h : WH P ops Q Bs fuel (listed.setIfInBounds i true) N ((d, v) :: l) W L) : WH P ops Q Bs (fuel + 1) listed N l W L := fun a w K S => by
  have hd' : dj < a.tmps.size := by rw [K.size]; exact Nat.le_of_ble_eq_true hdj
  have hy : yielded ops a.tmps j = some b := by
    have := K.val dj _ hg
    simp only [yielded, hj, Option.bind_some]
    rw [Array.getD_eq_getD_getElem?, Array.getElem?_eq_getElem hd'] at this
    rw [Array.getElem?_eq_getElem hd']
    simp only [Option.getD_some] at this
    rw [this]
  exact wpAnyI_take (by simp only [Bool.and_eq_true] at hs; exact hs.2) hi (by simp only [Bool.and_eq_true] at hs; exact hs.1) hf hr (fun c a w hp => hp.elim) (.inl ⟨by simp [Region.wanted, hy], fun w' ⟨L0, S'⟩ => hv L0 a w' K S'⟩) ⟨L, S⟩ (h _ w (K.put hd v) S)
theorem h_take_no {Bs : List Res} {fuel : Nat} {listed : Array Bool} (i : Nat) {d j dj : Nat} {b : Bool} {op : Op} {ty : TypeId} {pos : String} {af : Array Edge} {v : Value} (hi : ops[i]? = some ⟨some d, op, ty, pos, af, some (j, b)⟩) (hd : Nat.ble (d + 1) N = true)
    (hj : (ops[j]?).bind (·.dst) = some dj) (hg : lk l dj = some v) (hb : (match v with | .bool c => c == b | _ => false) = false)
    (hs : (Region.noSelect ops && ops.toList.all noDef) = true) (hf : Region.free .any ops listed i = true) (hr : (Region.ready .any ops listed).contains i = true)
    (h : WH P ops Q Bs fuel (listed.setIfInBounds i true) N ((d, undef) :: l) W L) : WH P ops Q Bs (fuel + 1) listed N l W L := fun a w K S => by
  have hy : yielded ops a.tmps j ≠ some b := by
    have := K.val dj _ hg
    simp only [yielded, hj, Option.bind_some]
    rw [Array.getD_eq_getD_getElem?] at this
    cases hgt : a.tmps[dj]? with
    | none => simp
    | some u =>
      rw [hgt] at this
      simp only [Option.getD_some] at this
      subst this
      cases u <;> simp
      intro e
      subst e
      simp at hb
  exact wpAnyI_take (by simp only [Bool.and_eq_true] at hs; exact hs.2) hi (by simp only [Bool.and_eq_true] at hs; exact hs.1) hf hr (fun c a w hp => hp.elim) (.inr ⟨by simp [Region.wanted, hy], rfl⟩) ⟨L, S⟩ (h _ w (K.put hd undef) S)
/-- An operation that turns the world. -/
theorem h_core {Bs : List Res} {fuel : Nat} {listed : Array Bool} (i : Nat) {o : Oper} (hi : ops[i]? = some o)
    (h : WL P ops (HQ N.ro P ops Q Bs fuel (listed.setIfInBounds i true) W) [o] N l W (Bs ++ L)) (a : Act) (w : World) (K : Know a N l) (S : Sat W w (Bs ++ L)) :
    wpOpIn (fen N.ro) 0 P ops (NoPan Q) i (fun a' w' => HS W Bs w' ∧ wpAnyI N.ro P .any ops (NoPan Q) (HS W Bs) fuel (listed.setIfInBounds i true) a' w') a w := by
  have h1 := h a w K S
  unfold wpOpIn
  simp only [hi]
  unfold wpListIn at h1
  split at h1
  · rename_i hw
    rw [if_pos hw]
    refine ⟨h1.1, ?_⟩
    have h2 := h1.2
    generalize (o.semAt (fen N.ro).round a.eval).run P w = r at *
    cases r with
    | ok n w' =>
      cases n with
      | enter f args =>
        refine ⟨h2.1, CallsIn.mono h2.2 ?_⟩
        intro e w'' he
        cases e with
        | returned v => exact he
        | panicked c => exact he
        | outgrown => exact he
      | round l f tmps assign body =>
        refine ⟨h2.1, RoundIn.mono h2.2 ?_⟩
        intro e w'' he
        cases e with
        | returned v => exact he
        | panicked c => exact he
        | outgrown => exact he
      | row r args => exact ⟨h2.1, RowsIn.mono h2.2 fun v w'' hv => hv⟩
      | value v => exact h2
      | skip => exact h2
      | defer d => exact h2
      | _ => exact h2
    | halt x w' =>
      cases x <;> exact h2
  · rename_i hw
    rw [if_neg hw]
    exact h1
/-- .. where nothing else may come up. -/
theorem h_one {Bs : List Res} {fuel : Nat} {listed : Array Bool} (i : Nat) {o : Oper} (hi : ops[i]? = some o) (hr : Region.ready .any ops listed = [i])
    (h : WL P ops (HQ N.ro P ops Q Bs fuel (listed.setIfInBounds i true) W) [o] N l W (Bs ++ L)) : WH P ops Q Bs (fuel + 1) listed N l W L := fun a w K S => by
  refine ⟨fun h0 => (by rw [hr] at h0; cases h0), ?_⟩
  rw [hr]
  intro i' hi'
  simp only [List.mem_singleton] at hi'
  subst hi'
  exact h_core _ hi h a w K S
theorem forall_nil {p : Nat → Prop} : ∀ i ∈ ([] : List Nat), p i := fun i h => by cases h
theorem forall_cons {p : Nat → Prop} {i : Nat} {is : List Nat} (h : p i) (h' : ∀ j ∈ is, p j) : ∀ j ∈ i :: is, p j := List.forall_mem_cons.2 ⟨h, h'⟩
/-- .. where others may come up, too. -/
theorem h_many {Bs : List Res} {fuel : Nat} {listed : Array Bool} {is : List Nat} (hr : Region.ready .any ops listed = is) (hne : is ≠ [])
    (h : ∀ i ∈ is, ∃ o, ops[i]? = some o ∧ WL P ops (HQ N.ro P ops Q Bs fuel (listed.setIfInBounds i true) W) [o] N l W (Bs ++ L)) : WH P ops Q Bs (fuel + 1) listed N l W L := fun a w K S => by
  refine ⟨fun h0 => (by rw [hr] at h0; exact absurd h0 hne), ?_⟩
  rw [hr]
  intro i hi
  obtain ⟨o, ho, hw⟩ := h i hi
  exact h_core _ ho hw a w K S
theorem h_next {Bs : List Res} {fuel : Nat} {listed : Array Bool} (h : WH P ops Q Bs fuel listed N l W L) : WQ (HQ N.ro P ops Q Bs fuel listed W) .normal N l W (Bs ++ L) := fun a w K S => ⟨⟨L, S⟩, h a w K S⟩
theorem h_eq {Bs : List Res} {fuel : Nat} {listed : Array Bool} {t : Nat} {v v' : Value} (hx : lk l t = some v) (e : v = v') (h : WH P ops Q Bs fuel listed N ((t, v') :: l) W L) : WH P ops Q Bs fuel listed N l W L := fun a w K S =>
  h a w (K.sub (l' := (t, v') :: l) (fun s u hs => by
    rw [lk_cons] at hs
    split at hs
    · rename_i hts; subst hts; subst e; rw [hx]; exact hs
    · exact hs)) S
theorem h_split {Bs : List Res} {fuel : Nat} {listed : Array Bool} {t : Nat} {b : Bool} (hx : lk l t = some (.bool b)) (ht : b = true → WH P ops Q Bs fuel listed N ((t, .bool true) :: l) W L) (he : b = false → WH P ops Q Bs fuel listed N ((t, .bool false) :: l) W L) : WH P ops Q Bs fuel listed N l W L := by
  cases b with
  | true => exact h_eq hx rfl (ht rfl)
  | false => exact h_eq hx rfl (he rfl)
end
end
section
set_option linter.unusedVariables false
set_option linter.unusedSimpArgs false
open Go.RowKit
structure Opens {α : Type} (P : Program) (W : World) (t : TypeId) (cells : α → List Value) (Good : α → Prop) : Prop where
  op : ∀ {H : Type} (enc : TypeId × Value → H) (fuel : Nat) (cs : List Value) (y : DataW H × List MemPlace), DataW.trod enc P W 0 (fun _ => true) true fuel t cs = some y → ∃ x : α, cs = cells x ∧ Good x
theorem opens_int {P : Program} {W : World} {t : TypeId} {k : IntKind} (ht : P.underlying t = some (.int k)) : Opens P W t (fun x : Int => [Value.int k x]) (fun x => (Lit.int k x).wf = true) where
  op := fun enc fuel cs y h => by
    cases fuel with
    | zero => cases h
    | succ n =>
      unfold DataW.trod at h
      rw [ht] at h
      cases cs with
      | nil => cases h
      | cons v cs =>
        cases cs with
        | cons u cs => cases v <;> simp at h
        | nil =>
          cases v <;> simp at h
          obtain ⟨⟨rfl, hw⟩, _⟩ := h
          exact ⟨_, rfl, hw⟩
theorem Opens.mono {α : Type} {P : Program} {W : World} {t : TypeId} {cells : α → List Value} {G G' : α → Prop} (h : Opens P W t cells G) (hg : ∀ x, G x → G' x) : Opens P W t cells G' where
  op := fun enc fuel cs y ht => let ⟨x, h1, h2⟩ := h.op enc fuel cs y ht; ⟨x, h1, hg x h2⟩
/-- A slice that came in. -/
structure Sl (α : Type) where
  a : Option Addr
  xs : List α
  c : Nat
def Sl.val {α : Type} (s : Sl α) : Value := .slice s.a s.xs.length s.c
structure SlGood {α : Type} (W : World) (e : Enc α) (G : α → Prop) (s : Sl α) : Prop where
  rd : SlR W e s.a s.xs
  le : s.xs.length ≤ s.c
  max : s.c ≤ maxLen
  all : ∀ x ∈ s.xs, G x
theorem flat_at {α : Type} {P : Program} {e : Enc α} (ok : EncOk P e) : ∀ {xs : List α} {j : Nat} {u : Value}, (flat e xs)[j]? = some u → ∃ (i : Nat) (x : α) (o : Nat), xs[i]? = some x ∧ (e.cells x)[o]? = some u ∧ j = i * e.sz + o
  | [], j, u, h => by simp [flat] at h
  | y :: ys, j, u, h => by
    have h0 : flat e (y :: ys) = e.cells y ++ flat e ys := rfl
    rw [h0] at h
    by_cases hj : j < (e.cells y).length
    · rw [List.getElem?_append_left hj] at h
      exact ⟨0, y, j, rfl, h, by omega⟩
    · rw [List.getElem?_append_right (by omega), ok.len] at h
      obtain ⟨i, x, o, h1, h2, h3⟩ := flat_at ok h
      rw [ok.len] at hj
      exact ⟨i + 1, x, o, by simpa using h1, h2, by rw [Nat.add_mul]; omega⟩
theorem mapM_get {α β : Type} (f : α → Option β) : ∀ (l : List α) (cs : List β), l.mapM f = some cs → ∀ (j : Nat) (u : β), cs[j]? = some u → ∃ i : α, l[j]? = some i ∧ f i = some u
  | [], cs, h, j, u, hj => by
    simp at h
    subst h
    cases hj
  | a :: l, cs, h, j, u, hj => by
    simp only [List.mapM_cons, Option.bind_eq_bind, Option.bind_eq_some_iff, Option.pure_def, Option.some.injEq] at h
    obtain ⟨b, hb, cs', hc, rfl⟩ := h
    cases j with
    | zero =>
      simp only [List.getElem?_cons_zero, Option.some.injEq] at hj
      subst hj
      exact ⟨a, rfl, hb⟩
    | succ j => exact mapM_get f l cs' hc j u (by simpa using hj)
theorem cells?_get {w : World} {base : Nat} {a : Addr} {n : Nat} {cs : List Value} (h : w.cells? base a n = some cs) : ∀ j u, cs[j]? = some u → w.cell? (a.add j) = some u := fun j u hj => by
  unfold World.cells? at h
  split at h
  · obtain ⟨i, h1, h2⟩ := mapM_get _ _ _ h j u hj
    have : i = j := by
      rw [List.getElem?_range] at h1
      · simpa using h1.symm
      · rcases Nat.lt_or_ge j n with h | h
        · exact h
        · rw [List.getElem?_eq_none (by simpa using h)] at h1; cases h1
    subst this
    exact h2
  · cases h
theorem exists_list {α : Type} {p : Nat → α → Prop} : ∀ (len : Nat), (∀ i, i < len → ∃ x, p i x) → ∃ xs : List α, xs.length = len ∧ ∀ i x, xs[i]? = some x → p i x
  | 0, _ => ⟨[], rfl, fun i x h => by cases h⟩
  | k + 1, hel => by
    obtain ⟨xs, hlen, hxs⟩ := exists_list k (fun i hi => hel i (by omega))
    obtain ⟨x, hx⟩ := hel k (by omega)
    refine ⟨xs ++ [x], by simp [hlen], fun i y hy => ?_⟩
    by_cases hi : i < xs.length
    · rw [List.getElem?_append_left hi] at hy
      exact hxs i y hy
    · rw [List.getElem?_append_right (by omega)] at hy
      have : i - xs.length = 0 := by
        rcases Nat.eq_zero_or_pos (i - xs.length) with h | h
        · exact h
        · rw [List.getElem?_eq_none (by simp; omega)] at hy; cases hy
      rw [this] at hy
      simp only [List.getElem?_cons_zero, Option.some.injEq] at hy
      subst hy
      have : i = k := by omega
      subst this
      exact hx
theorem opens_slice {α : Type} {P : Program} {W : World} {t : TypeId} {e : Enc α} {G : α → Prop} (ok : EncOk P e) (ht : P.underlying t = some (.slice e.T)) (ho : Opens P W e.T e.cells G) : Opens P W t (fun s : Sl α => [s.val]) (SlGood W e G) where
  op := fun enc fuel cs y h => by
    rcases Deep.open_slice ht h with ⟨rfl, _⟩ | ⟨a, len, cap, m, n, D, Pl, rfl, hb, hl, hm, hmm, _, hx⟩
    · exact ⟨⟨none, [], 0⟩, rfl, fun h0 => absurd rfl h0, Nat.zero_le _, Nat.zero_le _, fun x hx => by cases hx⟩
    · have hsz : P.cellsOf e.T = e.sz := by
        obtain ⟨i, hi, _, hs, _⟩ := ok.ti.get
        simp [Program.cellsOf, hi, hs]
      have hel : ∀ i, i < len → ∃ x : α, (∀ o u, (e.cells x)[o]? = some u → W.cell? (a.add (i * e.sz + o)) = some u) ∧ G x := fun i hi => by
        obtain ⟨cs', h1, h2⟩ := hx i (by rw [hmm]; split <;> omega)
        obtain ⟨x, rfl, hg⟩ := ho.op enc n cs' _ h2
        refine ⟨x, fun o u hu => ?_, hg⟩
        rw [hsz] at h1
        rw [← Addr.add_add']
        exact cells?_get h1 o u hu
      obtain ⟨xs, rfl, hxs⟩ := exists_list len hel
      refine ⟨⟨some a, xs, cap⟩, rfl, fun _ => ⟨a, rfl, fun j u hj => ?_⟩, hl, hm, fun x hx => ?_⟩
      · obtain ⟨i, x, o, h1, h2, rfl⟩ := flat_at ok hj
        exact (hxs i x h1).1 o u h2
      · obtain ⟨i, hi⟩ := List.getElem?_of_mem hx
        exact (hxs i x hi).2
theorem wf_i64 {x : Int} (h : (Lit.int .i64 x).wf = true) : -9223372036854775808 ≤ x ∧ x ≤ 9223372036854775807 := by
  simp [Lit.wf, IntKind.min, IntKind.max, IntKind.signed, IntKind.bits] at h; omega
theorem opens_u8 {P : Program} {W : World} {t : TypeId} (ht : P.underlying t = some (.int .u8)) : Opens P W t (fun x : UInt8 => [Value.int .u8 (x.toNat : Int)]) (fun _ => True) where
  op := fun enc fuel cs y h => by
    obtain ⟨x, rfl, g⟩ := (opens_int (W := W) ht).op enc fuel cs y h
    simp [Lit.wf, IntKind.min, IntKind.max, IntKind.signed, IntKind.bits] at g
    refine ⟨UInt8.ofNat x.toNat, ?_, trivial⟩
    have : ((UInt8.ofNat x.toNat).toNat : Int) = x := by simp; omega
    rw [this]
end
section
set_option linter.unusedVariables false
set_option linter.unusedSimpArgs false
open Go.RowKit
def obj {α : Type} (p : α → Prop) (A : α → List Res) : Res := sex fun x => star (pur (p x)) (stars (A x))
theorem Sat.flat {W w : World} {Ls L : List Res} (S : Sat W w (stars Ls :: L)) : Sat W w (Ls ++ L) := S.conv fun _ h => stars_append.2 h
theorem Sat.unflat {W w : World} {Ls L : List Res} (S : Sat W w (Ls ++ L)) : Sat W w (stars Ls :: L) := S.conv fun _ h => stars_append.1 h
theorem Sat.obj_open {α : Type} {p : α → Prop} {A : α → List Res} {W w : World} {L : List Res} (S : Sat W w (obj p A :: L)) : ∃ x, p x ∧ Sat W w (A x ++ L) := by
  obtain ⟨x, S⟩ := S.ex
  obtain ⟨hp, S⟩ := S.unpack.pur
  exact ⟨x, hp, S.flat⟩
theorem Sat.obj_mk {α : Type} {p : α → Prop} {A : α → List Res} {W w : World} {L : List Res} (x : α) (hp : p x) (S : Sat W w (A x ++ L)) : Sat W w (obj p A :: L) :=
  Sat.unex x (Sat.pack (Sat.unpur hp S.unflat))
section
variable {P : Program} {N : FN} {l : Fr} {W : World} {L : List Res} {Q : Exit → Act → World → Prop} {ops : Array Oper} {rest : List Oper} {α : Type} {p : α → Prop} {A : α → List Res}
theorem c_obj {c : Code} (h : ∀ x, p x → WC P c Q N l W (A x ++ L)) : WC P c Q N l W (obj p A :: L) := fun a w K S =>
  let ⟨x, hp, S'⟩ := S.obj_open; h x hp a w K S'
end
section
variable {P : Program} {N : FN} {l : Fr} {W : World} {L L' L0 : List Res} {Q : Exit → Act → World → Prop}
/-- The round's body begins. -/
def postB (P : Program) (k : Nat) (body : Code) (R : Ending → World → Prop) : Exit → Act → World → Prop :=
  Exit.then (fun a₁ w₁ => ∃ w₂, (Instr.beginRound k).run P w₁ = .ok () w₂ ∧ body.wpIn (fen (some k)) 0 P (roundPost P k R) a₁ w₂) (fun _ _ _ => False)
abbrev postR (P : Program) (k : Nat) (W : World) (post : Value → List Res → Prop) : Exit → Act → World → Prop := roundPost P k fun e w' => ∃ v L', e = .returned v ∧ post v L' ∧ Sat W w' L'
theorem q_begin {k : Nat} {r : Loop} {body : Code} {R : Ending → World → Prop} (hk : N.ro = some k) (hr : r.state = .ready) (h : WC P body (roundPost P k R) N l W (blk k (.loop { r with state := .busy }) :: L)) :
    WQ (postB P k body R) .normal N l W (blk k (.loop r) :: L) := fun a w K S => by
  refine ⟨_, run_beginRound S.read.2 hr, ?_⟩
  have h1 := h a _ K (S.putObj (o' := .loop { r with state := .busy }))
  rw [hk] at h1
  exact h1
theorem q_roundOn {k : Nat} {r : Loop} {post : Value → List Res → Prop} (hp : post (.bool true) L') (hL : ∀ w, Sat W w (blk k (.loop { r with state := .ready, pending := none }) :: L) → Sat W w L') :
    WQ (postR P k W post) .normal N l W (blk k (.loop r) :: L) := fun a w K S => by
  have h1 := S.putObj (o' := .loop { r with state := .ready, pending := none })
  exact ⟨_, _, run_endRound none S.read.2, _, L', rfl, hp, hL _ h1⟩
/-- What yield is called with, as9 slots. -/
def putArgs : List Nat → List Value → Fr → Fr
  | t :: ts, v :: vs, l => putArgs ts vs ((t, v) :: l)
  | _, _, l => l
theorem know_putArgs : ∀ (ts : List Nat) (vs : List Value) {a : Act} {N : FN} {l : Fr}, Know a N l → ts.all (fun t => Nat.ble (t + 1) N.n) = true → ts.length = vs.length →
    Know { a with tmps := ((ts.zip vs).foldl (fun tmps (p : Nat × Value) => tmps.setIfInBounds p.1 p.2) a.tmps) } N (putArgs ts vs l)
  | [], vs, a, N, l, K, _, hl => by
    cases vs with
    | nil => simpa [putArgs] using K
    | cons v vs => cases hl
  | t :: ts, [], a, N, l, K, _, hl => by cases hl
  | t :: ts, v :: vs, a, N, l, K, ht, hl => by
    simp only [List.all_cons, Bool.and_eq_true] at ht
    have h1 := know_putArgs ts vs (a := a.put (some t) v) (N := N) (l := (t, v) :: l) (K.put ht.1 v) ht.2 (by simpa using hl)
    simpa [Act.put, putArgs] using h1
def resf (tmps : Array Value) (x : ResultVar) : Sem Value := match x with
  | .tmp t => pure (tmps.getD t undef)
  | .cell p t => do loadVar t (← asAddr (tmps.getD p undef))
def RS (P : Program) (N : FN) (l : Fr) (W : World) (L : List Res) (x : ResultVar) (v : Value) : Prop := ∀ a w, Know a N l → Sat W w L → (resf a.tmps x).run P w = .ok v w
theorem rs_tmp {t : Nat} {v : Value} (h : lk l t = some v) : RS P N l W L (.tmp t) v := fun a w K _ => by
  show (pure (a.tmps.getD t undef) : Sem Value).run P w = _
  rw [K.val t v h]; rfl
theorem rs_cell {p ty : Nat} {ad : Addr} {td : TypeDesc} {v : Value} (h : lk l p = some (.pointer (some ad))) (hu : P.underlying ty = some td) (ha : aggD td = false) (hr : Rd W L ad v) : RS P N l W L (.cell p ty) v := fun a w K S => by
  show (do loadVar ty (← asAddr (a.tmps.getD p undef)) : Sem Value).run P w = _
  rw [K.val p _ h]
  simp [asAddr, loadVar, run_isAgg hu, ha, hr w S]
theorem rs_celln {p ty : Nat} {ad : Addr} {td : TypeDesc} {vs : List Value} {z : Value} {b : Nat} (h : lk l p = some (.pointer (some ad))) (hu : P.underlying ty = some td) (ha : aggD td = true) (hi : TI P ty z vs.length b) (hr : RdN W L ad vs) : RS P N l W L (.cell p ty) (.agg vs.toArray) := fun a w K S => by
  show (do loadVar ty (← asAddr (a.tmps.getD p undef)) : Sem Value).run P w = _
  rw [K.val p _ h]
  have := run_loadCells_list (P := P) w ad vs (hr w S)
  simp [asAddr, loadVar, run_isAgg hu, ha, run_sizeOf' hi, this]
theorem rs_1 {fn : Func} {x : ResultVar} {v : Value} (h : fn.results = #[x]) (h1 : RS P N l W L x v) : ∀ a w, Know a N l → Sat W w L → (results fn a.tmps).run P w = .ok v w := fun a w K S => by
  have e1 := h1 a w K S
  show (do let vs ← fn.results.mapM (resf a.tmps); pure (if h : vs.size = 1 then vs[0] else .tuple vs) : Sem Value).run P w = _
  rw [h]
  simp [Sem.run_bind, e1]
theorem rs_2 {fn : Func} {x y : ResultVar} {v u : Value} (h : fn.results = #[x, y]) (h1 : RS P N l W L x v) (h2 : RS P N l W L y u) : ∀ a w, Know a N l → Sat W w L → (results fn a.tmps).run P w = .ok (.tuple #[v, u]) w := fun a w K S => by
  have e1 := h1 a w K S
  have e2 := h2 a w K S
  show (do let vs ← fn.results.mapM (resf a.tmps); pure (if h : vs.size = 1 then vs[0] else .tuple vs) : Sem Value).run P w = _
  rw [h]
  simp [Sem.run_bind, e1, e2]
theorem f_retq {fn : Func} {post : Value → List Res → Prop} {v : Value} {e : Exit} (he : e = .ret ∨ e = .normal) (hr : ∀ a w, Know a N l → Sat W w L → (results fn a.tmps).run P w = .ok v w) (hq : ∀ w, Sat W w L → ∃ L', post v L' ∧ Sat W w L') (hdf : N.df = [] := by rfl) :
    WQ (postC P fn W post) e N l W L := fun a w K S => by
  obtain ⟨L', hp, S'⟩ := hq w S
  rcases he with rfl | rfl
  · show LeavesInM Fence.wide 0 P fn a.tmps _ a.defers .returning w
    rw [K.dfr, hdf]
    exact ⟨v, hr a w K S, v, L', rfl, hp, S'⟩
  · show LeavesInM Fence.wide 0 P fn a.tmps _ a.defers .returning w
    rw [K.dfr, hdf]
    exact ⟨v, hr a w K S, v, L', rfl, hp, S'⟩
theorem f_retMq {fn : Func} {post : Value → List Res → Prop} {v : Value} (rs : List Nat) {L0 : List Res} {e : Exit} (he : e = .ret ∨ e = .normal) (hdf : N.df = rs.map markD)
    (hL : ∀ w, Sat W w L → Sat W w (rs.map (fun r => blk r (.deferred (some []))) ++ L0)) (hr : ∀ a w, Know a N l → Sat W w L0 → (results fn a.tmps).run P w = .ok v w) (hq : ∀ w, Sat W w L0 → ∃ L', post v L' ∧ Sat W w L') :
    WQ (postC P fn W post) e N l W L := fun a w K S => by
  have key : ∀ (rs : List Nat) (w : World), Sat W w (rs.map (fun r => blk r (.deferred (some []))) ++ L0) → LeavesInM Fence.wide 0 P fn a.tmps (fun e w' => ∃ v L', e = .returned v ∧ post v L' ∧ Sat W w' L') (rs.map markD) .returning w := by
    intro rs
    induction rs with
    | nil => exact fun w S => let ⟨L', hp, S'⟩ := hq w S; ⟨v, hr a w K S, v, L', rfl, hp, S'⟩
    | cons r rs ih =>
      intro w S
      exact ⟨by simp, .inl ⟨r, _, rfl, run_takeDeferred S.read.2, ih _ (S.putObj (o' := .deferred none)).tail⟩⟩
  rcases he with rfl | rfl
  · show LeavesInM Fence.wide 0 P fn a.tmps _ a.defers .returning w
    rw [K.dfr, hdf]; exact key rs w (hL w S)
  · show LeavesInM Fence.wide 0 P fn a.tmps _ a.defers .returning w
    rw [K.dfr, hdf]; exact key rs w (hL w S)
theorem p9 {A B C D E G H I J K' : Res} {L : List Res} : (A :: B :: C :: D :: E :: G :: H :: I :: J :: K' :: L).Perm (K' :: A :: B :: C :: D :: E :: G :: H :: I :: J :: L) := (List.Perm.cons A p8).trans (List.Perm.swap _ _ _)
theorem l_f9 {A B C D E G H I J K' : Res} {P : Program} {N : FN} {l : Fr} {W : World} {L : List Res} {Q : Exit → Act → World → Prop} {ops : Array Oper} {rest : List Oper} (h : WL P ops Q rest N l W (K' :: A :: B :: C :: D :: E :: G :: H :: I :: J :: L)) : WL P ops Q rest N l W (A :: B :: C :: D :: E :: G :: H :: I :: J :: K' :: L) := l_perm p9 h
theorem p10 {A B C D E G H I J K' M : Res} {L : List Res} : (A :: B :: C :: D :: E :: G :: H :: I :: J :: K' :: M :: L).Perm (M :: A :: B :: C :: D :: E :: G :: H :: I :: J :: K' :: L) := (List.Perm.cons A p9).trans (List.Perm.swap _ _ _)
theorem l_f10 {A B C D E G H I J K' M : Res} {P : Program} {N : FN} {l : Fr} {W : World} {L : List Res} {Q : Exit → Act → World → Prop} {ops : Array Oper} {rest : List Oper} (h : WL P ops Q rest N l W (M :: A :: B :: C :: D :: E :: G :: H :: I :: J :: K' :: L)) : WL P ops Q rest N l W (A :: B :: C :: D :: E :: G :: H :: I :: J :: K' :: M :: L) := l_perm p10 h
theorem p11 {A B C D E G H I J K' M O : Res} {L : List Res} : (A :: B :: C :: D :: E :: G :: H :: I :: J :: K' :: M :: O :: L).Perm (O :: A :: B :: C :: D :: E :: G :: H :: I :: J :: K' :: M :: L) := (List.Perm.cons A p10).trans (List.Perm.swap _ _ _)
theorem l_f11 {A B C D E G H I J K' M O : Res} {P : Program} {N : FN} {l : Fr} {W : World} {L : List Res} {Q : Exit → Act → World → Prop} {ops : Array Oper} {rest : List Oper} (h : WL P ops Q rest N l W (O :: A :: B :: C :: D :: E :: G :: H :: I :: J :: K' :: M :: L)) : WL P ops Q rest N l W (A :: B :: C :: D :: E :: G :: H :: I :: J :: K' :: M :: O :: L) := l_perm p11 h
theorem p12 {A B C D E G H I J K' M O R : Res} {L : List Res} : (A :: B :: C :: D :: E :: G :: H :: I :: J :: K' :: M :: O :: R :: L).Perm (R :: A :: B :: C :: D :: E :: G :: H :: I :: J :: K' :: M :: O :: L) := (List.Perm.cons A p11).trans (List.Perm.swap _ _ _)
theorem l_f12 {A B C D E G H I J K' M O R : Res} {P : Program} {N : FN} {l : Fr} {W : World} {L : List Res} {Q : Exit → Act → World → Prop} {ops : Array Oper} {rest : List Oper} (h : WL P ops Q rest N l W (R :: A :: B :: C :: D :: E :: G :: H :: I :: J :: K' :: M :: O :: L)) : WL P ops Q rest N l W (A :: B :: C :: D :: E :: G :: H :: I :: J :: K' :: M :: O :: R :: L) := l_perm p12 h
theorem p13 {A B C D E G H I J K' M O R S : Res} {L : List Res} : (A :: B :: C :: D :: E :: G :: H :: I :: J :: K' :: M :: O :: R :: S :: L).Perm (S :: A :: B :: C :: D :: E :: G :: H :: I :: J :: K' :: M :: O :: R :: L) := (List.Perm.cons A p12).trans (List.Perm.swap _ _ _)
theorem p14 {A B C D E G H I J K' M O R S T : Res} {L : List Res} : (A :: B :: C :: D :: E :: G :: H :: I :: J :: K' :: M :: O :: R :: S :: T :: L).Perm (T :: A :: B :: C :: D :: E :: G :: H :: I :: J :: K' :: M :: O :: R :: S :: L) := (List.Perm.cons A p13).trans (List.Perm.swap _ _ _)
end
end
section
set_option linter.unusedVariables false
set_option linter.unusedSimpArgs false
open Go.RowKit
theorem Sat.stars_cons {W w : World} {A : Res} {Rs L : List Res} (S : Sat W w (stars (A :: Rs) :: L)) : Sat W w (A :: stars Rs :: L) := by
  have h := S.flat
  exact (h.perm (List.perm_middle.symm : (A :: (Rs ++ L)).Perm (Rs ++ A :: L))).unflat.perm (List.Perm.swap _ _ _)
theorem Sat.stars_uncons {W w : World} {A : Res} {Rs L : List Res} (S : Sat W w (A :: stars Rs :: L)) : Sat W w (stars (A :: Rs) :: L) := by
  have h := (S.perm (List.Perm.swap _ _ _) : Sat W w (stars Rs :: A :: L)).flat
  exact Sat.unflat (Ls := A :: Rs) (h.perm (List.perm_middle : (Rs ++ A :: L).Perm (A :: (Rs ++ L))))
theorem Sat.stars_nil {W w : World} {L : List Res} (S : Sat W w L) : Sat W w (stars [] :: L) := Sat.unflat (Ls := []) S
section
variable {P : Program} {N : FN} {l : Fr} {W : World} {L : List Res} {Q : Exit → Act → World → Prop} {ops : Array Oper} {rest : List Oper} {d : Nat} {ty : TypeId} {pos : String} {af : Array Edge}
theorem map_flat {e : Enc UInt8} (hc : e.cells = fun x => [.int .u8 (x.toNat : Int)]) (xs : List UInt8) : xs.map (fun b => Value.int .u8 (b.toNat : Int)) = flat e xs := by
  simp only [flat, hc]
  induction xs with
  | nil => rfl
  | cons y ys ih => simp [ih]
/-- '[]byte(s)'. -/
theorem o_strBytes {e : Enc UInt8} {s t : TypeId} {x : Operand} {u : ByteArray} (hc : e.cells = fun x => [.int .u8 (x.toNat : Int)]) (hz : e.sz = 1) (hd : Nat.ble (d + 1) N = true) (hx : opv l x = some (.string u)) (hs : P.underlying s = some .string) (ht : P.underlying t = some (.slice e.T)) (hT : P.underlying e.T = some (.int .u8))
    (h : ∀ (a : Option Addr) (c : Nat), u.data.toList.length ≤ c → WL P ops Q rest N ((d, .slice a u.data.toList.length c) :: l) W (mrow e.T e.sz a u.data.toList.length c (flat e u.data.toList) :: L)) :
    WL P ops Q (⟨some d, .convert s t x, ty, pos, af, none⟩ :: rest) N l W L :=
  o_runx (α := { q : Option Addr × Nat // u.data.toList.length ≤ q.2 }) hd (vv := fun q => .slice q.1.1 u.data.toList.length q.1.2) (LL := fun q => mrow e.T e.sz q.1.1 u.data.toList.length q.1.2 (flat e u.data.toList) :: L) (fun b w K S => by
    have hg : u.size ≤ grownCap w u.size 0 e.T := by unfold grownCap Question.cut; exact Nat.le_add_right _ _
    have hl : u.data.toList.length = u.size := by simp
    refine ⟨⟨(some ⟨w.heap.size, 0, none⟩, grownCap w u.size 0 e.T), by rw [hl]; exact hg⟩, w.drew.alloc (.cells (bytesRow u (grownCap w u.size 0 e.T)) e.T ((bytesRow u (grownCap w u.size 0 e.T)).size, (bytesRow u (grownCap w u.size 0 e.T)).size + 1)), ?_, ?_⟩
    · simp only [execOp, K.eval hx]
      rw [Sem.run_bind, run_bytes_of_string w s t e.T u hs ht hT, hl]
      rfl
    · have S1 := S.drew.alloc (.cells (bytesRow u (grownCap w u.size 0 e.T)) e.T ((bytesRow u (grownCap w u.size 0 e.T)).size, (bytesRow u (grownCap w u.size 0 e.T)).size + 1))
      refine S1.imp fun hh hb => ⟨?_, w.heap.size, _, _, rfl, ?_, hb⟩
      · rw [← map_flat hc, List.length_map, hz, Nat.mul_one]
      · rw [hz, Nat.mul_one, bytesRow, Array.toList_append, List.take_append_of_le_length (by simp), Array.toList_map, List.take_of_length_le (by simp), map_flat hc]) fun q => h q.1.1 q.1.2 q.2
end
end
section
set_option linter.unusedVariables false
set_option linter.unusedSimpArgs false
open Go.RowKit
/-- copy at elements of whatever size: all is read ahead of what is written. -/
theorem run_copy_rowN {P : Program} (w : World) (dT sT ty elem : TypeId) (g o dLen dCap : Nat) (a : Addr) (sLen sCap k sz b : Nat) (z : Value) (cur : Array Value) (t : TypeId) (cs : List Value)
    (hu : P.underlying dT = some (.slice elem)) (hs : TI P elem z sz b) (hg : w.heap[g]? = some (.cells cur t (0, 0))) (hk : k = Nat.min sLen dLen) (hn : cs.length = k * sz)
    (hsrc : ∀ j v, cs[j]? = some v → w.cell? (a.add j) = some v) (hfit : o + cs.length ≤ cur.size) (h1 : ∀ v ∈ cs, v.oneCell' = true) :
    (Builtin.copy_ #[dT, sT] ty #[.slice (some ⟨g, o, none⟩) dLen dCap, .slice (some a) sLen sCap]).run P w =
      .ok (goInt k) (w.setRow g (cur.toList.take o ++ cs ++ cur.toList.drop (o + cs.length)).toArray) := by
  have hl := run_loadCells_list (P := P) w a cs hsrc
  have hst := run_storeCells_at P g o t cs 0 cur w hg (by simpa using hfit) h1
  obtain ⟨i, hi, hz, hsz, hby⟩ := hs.get
  simp [Builtin.copy_, run_underlying hu, Builtin.lenOf, Builtin.firstCells, sizeOf, typeInfo, hi, hsz, ← hk, ← hn, hl, hst]
theorem zeroCells_list (z : Array Value) : ∀ k, (Builtin.zeroCells z k).toList = (List.replicate k z.toList).flatten
  | 0 => by simp [Builtin.zeroCells]
  | k + 1 => by
    have ih := zeroCells_list z k
    simp only [Builtin.zeroCells, Array.toList_map, Array.toList_range] at ih ⊢
    rw [show (k + 1) * z.size = k * z.size + z.size by rw [Nat.add_mul]; omega, List.range_add, List.map_append, ih, List.map_map, List.replicate_succ', List.flatten_append]
    congr 1
    simp only [List.flatten_cons, List.flatten_nil, List.append_nil]
    apply List.ext_getElem
    · simp
    · intro i h1 h2
      simp only [List.length_map, List.length_range] at h1
      simp only [List.getElem_map, List.getElem_range, Function.comp, Array.getElem_toList]
      rw [Nat.mul_comm k, Nat.mul_add_mod, Nat.mod_eq_of_lt h1]
      exact getElem!_pos z i h1
section
variable {P : Program} {N : FN} {l : Fr} {W : World} {L : List Res} {Q : Exit → Act → World → Prop} {ops : Array Oper} {rest : List Oper} {d : Nat} {ty : TypeId} {pos : String} {af : Array Edge}
/-- Cells that can be read from an address on. -/
def RdO (W : World) (L : List Res) (b : Option Addr) (ds : List Value) : Prop := ∀ w, Sat W w L → ∃ ad, b = some ad ∧ ∀ j v, ds[j]? = some v → w.cell? (ad.add j) = some v
theorem rdO_of {α : Type} {e : Enc α} {a : Option Addr} {xs : List α} (h : RdS W L e a xs) (hn : xs ≠ []) : RdO W L a (flat e xs) := fun w S => h w S hn
theorem cutA_some {g c lo sz : Nat} (h : lo < c) : cutA (some ⟨g, 0, none⟩) c lo sz = some ⟨g, lo * sz, none⟩ := by
  unfold cutA
  rw [if_neg (by omega)]
  simp [Addr.add_mk]
theorem rdO_row {T sz n c lo m : Nat} {a : Option Addr} {cs : List Value} (i : Nat) (h : L[i]? = some (row T sz a n c cs)) (hlo : lo < c) (hn : 0 < n) : RdO W L (cutA a c lo sz) ((cs.drop (lo * sz)).take m) := fun w S => by
  obtain ⟨L', S'⟩ := mem_front (List.mem_of_getElem? h) S
  obtain ⟨hl, ⟨h1, h2, h3, S2⟩ | ⟨g, cur, rfl, h2, h3, h4, h5, S2⟩⟩ := S'.own_cases
  · omega
  · refine ⟨_, cutA_some hlo, fun j v hj => ?_⟩
    rw [Addr.add_mk, S2.cell]
    rw [List.getElem?_take] at hj
    split at hj
    · rw [List.getElem?_drop, ← h5, List.getElem?_take] at hj
      split at hj
      · simpa using hj
      · cases hj
    · cases hj
theorem cutA_0 (a : Option Addr) (c sz : Nat) : cutA a c 0 sz = a := by
  unfold cutA
  split
  · rfl
  · cases a with
    | none => rfl
    | some p => simp [Addr.add]
/-- copy(a[lo:], src): k elements. -/
theorem o_copy {dT sT : TypeId} {x y : Operand} {T sz n c lo dl dc k m sc bb : Nat} {z : Value} {a b : Option Addr} {cs ds : List Value} (hd : Nat.ble (d + 1) N = true) (hx : opv l x = some (.slice (cutA a c lo sz) dl dc)) (hy : opv l y = some (.slice b m sc)) (ht : P.underlying dT = some (.slice T)) (hi : TI P T z sz bb)
    (hk : k = Nat.min m dl) (h0 : 0 < k) (hds : ds.length = k * sz) (hr : RdO W (row T sz a n c cs :: L) b ds) (hfit : lo + k ≤ n) (h1 : ∀ v ∈ ds, v.oneCell' = true)
    (h : WL P ops Q rest N ((d, .int .i64 (k : Int)) :: l) W (row T sz a n c (cs.take (lo * sz) ++ ds ++ cs.drop (lo * sz + k * sz)) :: L)) :
    WL P ops Q (⟨some d, .call { callee := .builtin .copy, args := #[x, y], argTypes := #[dT, sT] }, ty, pos, af, none⟩ :: rest) N l W (row T sz a n c cs :: L) :=
  o_runx (α := Unit) hd (vv := fun _ => .int .i64 (k : Int)) (LL := fun _ => row T sz a n c (cs.take (lo * sz) ++ ds ++ cs.drop (lo * sz + k * sz)) :: L) (fun ac w K S => by
    obtain ⟨hl, ⟨h1, h2, h3, S2⟩ | ⟨g, cur, rfl, h2, h3, h4, h5, S2⟩⟩ := S.own_cases
    · omega
    · obtain ⟨ad, rfl, hc⟩ := hr w S
      have hks : lo * sz + k * sz ≤ n * sz := by rw [← Nat.add_mul]; exact Nat.mul_le_mul_right _ hfit
      have hcs := Nat.le_trans (Nat.mul_le_mul_right sz h2) h4
      have hrun := run_copy_rowN (P := P) w dT sT ty T g (lo * sz) dl dc ad m sc k sz bb z cur T ds ht hi S2.read.2 hk hds hc (by omega) h1
      refine ⟨(), w.setRow g (cur.toList.take (lo * sz) ++ ds ++ cur.toList.drop (lo * sz + ds.length)).toArray, ?_, ?_⟩
      · have hx' : opv l x = some (.slice (some ⟨g, lo * sz, none⟩) dl dc) := by rw [hx, cutA_some (by omega)]
        simp only [execOp, resolve, invoke, builtin, List.map_toArray, List.map_cons, List.map_nil, K.eval hx', K.eval hy, Sem.run_bind, Sem.run_pure, Result.andThen_ok, hrun]
        rfl
      · have S3 : Sat W (w.setRow g (cur.toList.take (lo * sz) ++ ds ++ cur.toList.drop (lo * sz + ds.length)).toArray) (blk g (.cells (cur.toList.take (lo * sz) ++ ds ++ cur.toList.drop (lo * sz + ds.length)).toArray T (0, 0)) :: L) :=
          S2.turn rfl rfl rfl (by simp [World.setRow]) (setRow_heap w g cur _ T _ S2.read.2) (fun q hq => setRow_other w g q _ hq)
        refine S3.own_mk h2 h3 ?_ ?_
        · rw [List.size_toArray]; simp only [List.length_append, List.length_take, List.length_drop, Array.length_toList]; omega
        · rw [List.toList_toArray, ← h5, hds, List.take_take, Nat.min_eq_left (by omega), List.drop_take]
          rw [List.take_append, List.take_of_length_le (by simp only [List.length_append, List.length_take, Array.length_toList]; omega)]
          congr 2
          simp only [List.length_append, List.length_take, Array.length_toList]; omega) fun _ => h
/-- A row's slice beyond its length, within what it can hold. -/
theorem Sat.row_more {w : World} {T sz n c k : Nat} {a : Option Addr} {cs : List Value} (S : Sat W w (row T sz a n c cs :: L)) (hk : n + k ≤ c) (hn : 0 < n) : ∃ js, js.length = k * sz ∧ Sat W w (row T sz a (n + k) c (cs ++ js) :: L) := by
  obtain ⟨hl, ⟨h1, h2, h3, S2⟩ | ⟨g, cur, rfl, h2, h3, h4, h5, S2⟩⟩ := S.own_cases
  · omega
  · have hm := Nat.le_trans (Nat.mul_le_mul_right sz hk) h4
    rw [Nat.add_mul] at hm
    refine ⟨(cur.toList.drop (n * sz)).take (k * sz), by simp only [List.length_take, List.length_drop, Array.length_toList]; omega, S2.own_mk hk h3 h4 ?_⟩
    rw [Nat.add_mul, List.take_add, h5]
theorem c_more {cd : Code} {T sz n c : Nat} (k : Nat) {a : Option Addr} {cs : List Value} (hk : n + k ≤ c) (hn : 0 < n) (h : ∀ js, js.length = k * sz → WC P cd Q N l W (row T sz a (n + k) c (cs ++ js) :: L)) : WC P cd Q N l W (row T sz a n c cs :: L) := fun a' w K S =>
  let ⟨js, hj, S'⟩ := S.row_more hk hn; h js hj a' w K S'
/-- A row that is cut: x[:n':c']. -/
theorem Sat.row_cut {w : World} {T sz n c n' c' : Nat} {a : Option Addr} {cs : List Value} (S : Sat W w (row T sz a n c cs :: L)) (h1 : n' ≤ n) (h2 : n' ≤ c') (h3 : c' ≤ c) (h0 : 0 < c') : Sat W w (row T sz a n' c' (cs.take (n' * sz)) :: L) := by
  obtain ⟨hl, ⟨g1, g2, g3, S2⟩ | ⟨g, cur, rfl, g2, g3, g4, g5, S2⟩⟩ := S.own_cases
  · omega
  · refine S2.own_mk h2 (by omega) (Nat.le_trans (Nat.mul_le_mul_right sz h3) g4) ?_
    rw [← g5, List.take_take, Nat.min_eq_left (Nat.mul_le_mul_right sz h1)]
/-- overlaps of two slices in two rows. -/
theorem o_overlaps {f : FuncId} {x y : Operand} {tys : Array TypeId} {fn : Func} {tS tR T sz n c n2 c2 bb la ca lb cb lo : Nat} {z : Value} {a a2 : Option Addr} {cs cs2 : List Value} (hd : Nat.ble (d + 1) N = true) (hx : opv l x = some (.slice a la ca)) (hy : opv l y = some (.slice (cutA a2 c2 lo sz) lb cb))
    (hf : P.funcs[f]? = some fn) (hname : (fn.name == "runtime.NumGoroutine") = false) (hb : fn.body.isNone = true) (hn : Extern.findNext fn = none) (he : Extern.find fn = some (Extern.SlicesOverlaps.overlaps #[tS, tS] #[tR])) (ht : P.underlying tS = some (.slice T)) (hi : TI P T z sz bb)
    (hsz : 0 < sz) (h1 : 0 < n) (h2 : lo < n2) (h : WL P ops Q rest N ((d, .bool false) :: l) W (row T sz a n c cs :: row T sz a2 n2 c2 cs2 :: L)) :
    WL P ops Q (⟨some d, .call { callee := .value (.func f), args := #[x, y], argTypes := tys }, ty, pos, af, none⟩ :: rest) N l W (row T sz a n c cs :: row T sz a2 n2 c2 cs2 :: L) :=
  o_val hd (fun ac w K S => by
    obtain ⟨hl, ⟨g1, g2, g3, S2⟩ | ⟨g, cur, rfl, g2, g3, g4, g5, S2⟩⟩ := S.own_cases
    · omega
    · obtain ⟨hl', ⟨k1, k2, k3, S3⟩ | ⟨g', cur', rfl, k2, k3, k4, k5, S3⟩⟩ := (S2.perm (List.Perm.swap _ _ _)).own_cases
      · omega
      · have hr1 := S3.read.2
        have S4 := S3.perm (List.Perm.swap _ _ _)
        have hr2 := S4.read.2
        have hne : g ≠ g' := fun e => by
          subst e
          obtain ⟨y, ⟨x1, b1, hdj, rfl, hx1, x2, b2, hdj2, rfl, hx2, hb2⟩, hy⟩ := S4.own
          rcases hdj g with h9 | h9
          · rw [hx1] at h9; simp at h9
          · simp only [PH.un, Option.or_eq_none_iff] at h9
            rw [hx2] at h9; simp at h9
        have hy' : opv l y = some (.slice (some ⟨g', lo * sz, none⟩) lb cb) := by rw [hy, cutA_some (by omega)]
        have hsh : w.shape? g = some (T, cur.size) := by unfold World.shape?; rw [hr2]
        have hsh' : w.shape? g' = some (T, cur'.size) := by unfold World.shape?; rw [hr1]
        have hpos : 0 < c2 * sz := Nat.mul_pos (by omega) hsz
        have hov := Lib.run_overlaps_apart (P := P) w tS tR T ht sz (run_sizeOf' hi) ⟨g, 0, none⟩ ⟨g', lo * sz, none⟩ la ca lb cb hne T T cur.size cur'.size hsh hsh' (by omega) (S4.frozen 0) (S4.frozen _)
        have hc := run_callFunc_extern (P := P) hf hname hb hn he #[.slice (some ⟨g, 0, none⟩) la ca, .slice (some ⟨g', lo * sz, none⟩) lb cb] w
        rw [hov] at hc
        have hfx : ac.eval (.func f) = .func (.func f) #[] #[] := rfl
        simp only [execOp, resolve, K.eval hx, K.eval hy', hfx, List.map_toArray, List.map_cons, List.map_nil, Deferred.ofValue, Sem.run_bind, Sem.run_pure, Result.andThen_ok, invoke]
        simpa using hc) h
/-- append(xs[:i], make([]T, k)...) that does not fit: a new row; the old one stays. -/
theorem o_appendZ {α : Type} {e : Enc α} {t tn : TypeId} {x y : Operand} {a b : Option Addr} {c i k n : Nat} {xs : List α} {kq kn : IntKind} (ok : EncOk P e) (hn : n = i + k) (hd : Nat.ble (d + 1) N = true) (ea : cutA a c 0 e.sz = b) (hx : opv l x = some (.slice b i c)) (hy : opv l y = some (.int kq (k : Int))) (ht : P.underlying t = some (.slice e.T)) (htn : P.underlying tn = some (.int kn))
    (hi : i ≤ xs.length) (hc : c < i + k) (h0 : 0 < k) (hb : (i + k) * e.bytes ≤ 140737488355328) (hm : i + k ≤ 140737488355328)
    (h : ∀ a' c' zs, zs.length = k * e.sz → WL P ops Q rest N ((d, .slice a' n c') :: l) W (row e.T e.sz a' n c' (flat e (xs.take i) ++ zs) :: row e.T e.sz a xs.length c (flat e xs) :: L)) :
    WL P ops Q (⟨some d, .call { callee := .builtin .append, args := #[x, y], argTypes := #[t, tn] }, ty, pos, af, none⟩ :: rest) N l W (row e.T e.sz a xs.length c (flat e xs) :: L) :=
  o_runx (α := Option Addr × Nat) hd (vv := fun p => .slice p.1 n p.2) (LL := fun p => row e.T e.sz p.1 n p.2 (flat e (xs.take i) ++ (Builtin.zeroCells e.z.cells k).toList) :: row e.T e.sz a xs.length c (flat e xs) :: L) (fun ac w K S => by
    obtain ⟨ti, hti, hz, hs, hby⟩ := ok.ti.get
    have hold : (Builtin.firstCells ti.size i (.slice b i c)).run P w.drew = .ok (flat e (xs.take i)).toArray w.drew := by
      obtain ⟨hl, ⟨g1, g2, g3, S2⟩ | ⟨g, cur, rfl, g2, g3, g4, g5, S2⟩⟩ := S.own_cases
      · have hxs : xs = [] := List.eq_nil_of_length_eq_zero g2
        subst hxs
        rw [g1, cutA_none] at ea
        subst ea
        have : i = 0 := by simpa using hi
        subst this
        simp [Builtin.firstCells, flat]
      · rw [cutA_zero] at ea
        subst ea
        refine run_firstCells_some (P := P) w.drew ti.size i ⟨g, 0, none⟩ i c _ (by rw [flat_length ok, List.length_take, hs]; congr 1; omega) (fun j v hj => ?_)
        rw [Addr.add_mk, Nat.zero_add, S2.drew.cell]
        rw [flat_take ok, ← g5, List.take_take, List.getElem?_take] at hj
        split at hj
        · simpa using hj
        · cases hj
    have hfit := growslice_fits hc (by rw [hby]; exact hb : (i + k) * ti.bytes ≤ 140737488355328)
    have hkb : k * ti.bytes ≤ 281474976710656 := by
      have := Nat.mul_le_mul_right ti.bytes (show k ≤ i + k by omega)
      rw [hby] at this ⊢; omega
    have hrun := Lib.run_append_grow_zeros (P := P) w t tn ty e.T ti e.z kq kn ht htn hti hz b i c (flat e (xs.take i)) hold k h0 (by rw [hs]; exact ok.pos) hc (by omega) hkb hfit
    obtain ⟨C, hC⟩ : ∃ C, C = (flat e (xs.take i)).toArray ++ Builtin.zeroCells e.z.cells k ++ Builtin.zeroCells e.z.cells (grownCap w (i + k) c e.T - (i + k)) := ⟨_, rfl⟩
    rw [← hC] at hrun
    have hge := grownCap_ge w (i + k) c e.T
    have hcm := grownCap_le_maxLen w (i + k) c e.T (by simp only [maxLen]; omega)
    refine ⟨(some ⟨w.heap.size, 0, none⟩, grownCap w (i + k) c e.T), w.drew.alloc (.cells C e.T), ?_, ?_⟩
    · rw [hn]
      simp only [execOp, resolve, invoke, builtin, List.map_toArray, List.map_cons, List.map_nil, K.eval hx, K.eval hy, Sem.run_bind, Sem.run_pure, Result.andThen_ok, hrun]
    · rw [hn]
      have S1 := S.drew.alloc (.cells C e.T)
      refine S1.own_mk hge hcm ?_ ?_
      · rw [hC]
        simp only [Array.size_append, List.size_toArray, size_zeroCells, ok.zs, flat_length ok, List.length_take, Nat.min_eq_left hi, ← Nat.add_mul]
        exact Nat.mul_le_mul_right _ (by omega)
      · rw [hC]
        simp only [Array.toList_append, List.toList_toArray]
        refine List.take_left' ?_
        simp only [List.length_append, flat_length ok, Array.length_toList, size_zeroCells, ok.zs, List.length_take, Nat.min_eq_left hi, ← Nat.add_mul]) fun p => h p.1 p.2 _ (by rw [Array.length_toList, size_zeroCells, ok.zs])
/-- What is put in between, by cells. -/
theorem ins_raw {α : Type} {e : Enc α} (ok : EncOk P e) {xs : List α} {x : α} {i : Nat} {js ds : List Value} (hi : i < xs.length) (hj : js.length = 1 * e.sz) (hds : ds = ((flat e xs ++ js).drop (i * e.sz)).take ((xs.length - i) * e.sz)) :
    (((flat e xs ++ js).take ((i + 1) * e.sz) ++ ds ++ (flat e xs ++ js).drop ((i + 1) * e.sz + (xs.length - i) * e.sz)).take (i * e.sz) ++ flat e [x] ++ ((flat e xs ++ js).take ((i + 1) * e.sz) ++ ds ++ (flat e xs ++ js).drop ((i + 1) * e.sz + (xs.length - i) * e.sz)).drop (i * e.sz + 1 * e.sz)) = flat e (xs.take i ++ x :: xs.drop i) := by
  have hl := flat_length ok xs
  have h1 : i * e.sz ≤ xs.length * e.sz := Nat.mul_le_mul_right _ (by omega)
  have h2 : (i + 1) * e.sz = i * e.sz + e.sz := by rw [Nat.add_mul]; omega
  have h3 : (xs.length - i) * e.sz = xs.length * e.sz - i * e.sz := Nat.sub_mul _ _ _
  have h4 : (i + 1) * e.sz ≤ xs.length * e.sz := Nat.mul_le_mul_right _ (by omega)
  have hd : ds = flat e (xs.drop i) := by
    rw [hds, List.drop_append_of_le_length (by omega), List.take_append_of_le_length (by rw [List.length_drop]; omega), List.take_of_length_le (by rw [List.length_drop]; omega), flat_drop ok]
  have hz : (flat e xs ++ js).drop ((i + 1) * e.sz + (xs.length - i) * e.sz) = [] := List.drop_eq_nil_of_le (by rw [List.length_append]; omega)
  have ht : (flat e xs ++ js).take ((i + 1) * e.sz) = flat e (xs.take (i + 1)) := by rw [List.take_append_of_le_length (by omega), flat_take ok]
  have hlt : (flat e (xs.take (i + 1))).length = (i + 1) * e.sz := by rw [flat_length ok, List.length_take]; congr 1; omega
  rw [hz, List.append_nil, ht, hd]
  rw [List.take_append_of_le_length (by omega), ← flat_take ok, List.take_take, Nat.min_eq_left (by omega)]
  rw [List.drop_append, hlt, List.drop_of_length_le (by omega), show i * e.sz + 1 * e.sz - (i + 1) * e.sz = 0 by omega, List.nil_append, List.drop_zero]
  rw [show x :: xs.drop i = [x] ++ xs.drop i from rfl, flat_append, flat_append, List.append_assoc]
/-- The same in a new row: the head, room, then what is put in, then what stood behind it. -/
theorem ins_raw2 {α : Type} {e : Enc α} (ok : EncOk P e) {xs : List α} {x : α} {i : Nat} {zs : List Value} (hi : i < xs.length) (hz : zs.length = (xs.length + 1 - i) * e.sz) :
    (((flat e (xs.take i) ++ zs).take (i * e.sz) ++ flat e [x] ++ (flat e (xs.take i) ++ zs).drop (i * e.sz + 1 * e.sz)).take ((i + 1) * e.sz) ++ ((flat e xs).drop (i * e.sz)).take ((xs.length - i) * e.sz) ++
      ((flat e (xs.take i) ++ zs).take (i * e.sz) ++ flat e [x] ++ (flat e (xs.take i) ++ zs).drop (i * e.sz + 1 * e.sz)).drop ((i + 1) * e.sz + (xs.length - i) * e.sz)) = flat e (xs.take i ++ x :: xs.drop i) := by
  have hl : (flat e (xs.take i)).length = i * e.sz := by rw [flat_length ok, List.length_take]; congr 1; omega
  have e1 : (flat e (xs.take i) ++ zs).take (i * e.sz) = flat e (xs.take i) := List.take_left' hl
  have hlx : (flat e (xs.take i) ++ flat e [x]).length = (i + 1) * e.sz := by rw [← flat_append, flat_length ok, List.length_append, List.length_take]; congr 1; simp; omega
  have e2 : ((flat e (xs.take i) ++ flat e [x]) ++ (flat e (xs.take i) ++ zs).drop (i * e.sz + 1 * e.sz)).take ((i + 1) * e.sz) = flat e (xs.take i) ++ flat e [x] := List.take_left' hlx
  have e3 : ((flat e xs).drop (i * e.sz)).take ((xs.length - i) * e.sz) = flat e (xs.drop i) := by
    rw [← flat_drop ok, ← flat_take ok, List.take_of_length_le (by rw [List.length_drop]; omega)]
  have h5 : (xs.length + 1 - i) * e.sz = (xs.length - i) * e.sz + e.sz := by rw [show xs.length + 1 - i = (xs.length - i) + 1 by omega, Nat.add_mul]; omega
  have e4 : ((flat e (xs.take i) ++ flat e [x]) ++ (flat e (xs.take i) ++ zs).drop (i * e.sz + 1 * e.sz)).drop ((i + 1) * e.sz + (xs.length - i) * e.sz) = [] := List.drop_eq_nil_of_le (by rw [List.length_append, hlx, List.length_drop, List.length_append, hl, hz]; omega)
  rw [e1, e2, e3, e4, List.append_nil, show xs.take i ++ x :: xs.drop i = xs.take i ++ ([x] ++ xs.drop i) from rfl, flat_append, flat_append, List.append_assoc]
section
variable {P : Program} {N : FN} {l : Fr} {W : World} {L : List Res} {Q : Exit → Act → World → Prop} {ops : Array Oper} {rest : List Oper} {d : Nat} {ty : TypeId} {pos : String} {af : Array Edge}
theorem o_cap {t e : TypeId} {x : Operand} {p : Option Addr} {n c : Nat} (hd : Nat.ble (d + 1) N = true) (hx : opv l x = some (.slice p n c)) (ht : P.underlying t = some (.slice e)) (h : WL P ops Q rest N ((d, .int .i64 (c : Int)) :: l) W L) :
    WL P ops Q (⟨some d, .call { callee := .builtin .cap, args := #[x], argTypes := #[t] }, ty, pos, af, none⟩ :: rest) N l W L :=
  o_val hd (fun a w K _ => by simp [execOp, resolve, invoke, builtin, K.eval hx, Builtin.cap_, run_underlying ht, goInt]) h
theorem row_capL {T sz n c : Nat} {a : Option Addr} {cs : List Value} {w : World} (S : Sat W w (row T sz a n c cs :: L)) : n ≤ c ∧ c ≤ maxLen := by
  obtain ⟨hl, ⟨h1, h2, h3, S2⟩ | ⟨g, cur, rfl, h2, h3, h4, h5, S2⟩⟩ := S.own_cases
  · subst h2; subst h3; simp [maxLen]
  · exact ⟨h2, h3⟩
theorem c_rowcap {cd : Code} {T sz n c : Nat} {a : Option Addr} {cs : List Value} (h : n ≤ c ∧ c ≤ maxLen → WC P cd Q N l W (row T sz a n c cs :: L)) : WC P cd Q N l W (row T sz a n c cs :: L) := fun a' w K S => h (row_capL S) a' w K S
end
end
end
section
set_option linter.unusedVariables false
set_option linter.unusedSimpArgs false
open Go.RowKit Classical
structure Sto {κ : Type} (lt : κ → κ → Prop) : Prop where
  irr : ∀ a, ¬ lt a a
  tr : ∀ {a b c}, lt a b → lt b c → lt a c
  tri : ∀ {a b}, ¬ lt a b → ¬ lt b a → a = b
section
variable {α κ : Type} {key : α → κ} {lt : κ → κ → Prop}
def Srt (key : α → κ) (lt : κ → κ → Prop) (xs : List α) : Prop := xs.Pairwise fun a b => lt (key a) (key b)
noncomputable def ins (key : α → κ) (lt : κ → κ → Prop) (x : α) : List α → List α
  | [] => [x]
  | y :: ys => if lt (key x) (key y) then x :: y :: ys else if lt (key y) (key x) then y :: ins key lt x ys else x :: ys
theorem ins_pre (o : Sto lt) {x : α} {Z : List α} : ∀ {P : List α}, (∀ p ∈ P, lt (key p) (key x)) → ins key lt x (P ++ Z) = P ++ ins key lt x Z
  | [], _ => rfl
  | p :: P, h => by
    have h1 := h p (by simp)
    rw [List.cons_append, ins, if_neg (fun h2 => o.irr _ (o.tr h1 h2)), if_pos h1, ins_pre o (fun q hq => h q (by simp [hq]))]
    rfl
theorem ins_gt {x : α} {Z : List α} (h : ∀ s ∈ Z, lt (key x) (key s)) : ins key lt x Z = x :: Z := by
  cases Z with
  | nil => rfl
  | cons z Z => rw [ins, if_pos (h z (by simp))]
theorem ins_suf {x : α} {S : List α} (h : ∀ s ∈ S, lt (key x) (key s)) : ∀ (M : List α), ins key lt x (M ++ S) = ins key lt x M ++ S
  | [] => by rw [List.nil_append, ins_gt h]; rfl
  | m :: M => by
    rw [List.cons_append, ins, ins, ins_suf h M]
    split
    · rfl
    · split <;> rfl
theorem ins_mid (o : Sto lt) {x : α} {P M S : List α} (h1 : ∀ p ∈ P, lt (key p) (key x)) (h2 : ∀ s ∈ S, lt (key x) (key s)) : ins key lt x (P ++ (M ++ S)) = P ++ (ins key lt x M ++ S) := by
  rw [ins_pre o h1, ins_suf h2]
theorem ins_eq (o : Sto lt) {x y : α} {P S : List α} (h1 : ∀ p ∈ P, lt (key p) (key x)) (h : key y = key x) : ins key lt x (P ++ y :: S) = P ++ x :: S := by
  rw [ins_pre o h1, ins, if_neg (by rw [h]; exact o.irr _), if_neg (by rw [h]; exact o.irr _)]
theorem mem_ins {x y : α} : ∀ {xs : List α}, y ∈ ins key lt x xs → y = x ∨ y ∈ xs
  | [], h => by simp [ins] at h; exact .inl h
  | z :: zs, h => by
    rw [ins] at h
    split at h
    · simp at h; simpa using h
    · split at h
      · simp at h
        rcases h with h | h
        · exact .inr (by simp [h])
        · rcases mem_ins h with h | h
          · exact .inl h
          · exact .inr (by simp [h])
      · simp at h
        rcases h with h | h
        · exact .inl h
        · exact .inr (by simp [h])
theorem srt_ins (o : Sto lt) {x : α} : ∀ {xs : List α}, Srt key lt xs → Srt key lt (ins key lt x xs)
  | [], _ => by simp [ins, Srt]
  | y :: ys, h => by
    have h' := List.pairwise_cons.1 h
    rw [ins]
    split
    · rename_i h1
      exact List.pairwise_cons.2 ⟨fun z hz => by
        rcases List.mem_cons.1 hz with rfl | hz
        · exact h1
        · exact o.tr h1 (h'.1 z hz), h⟩
    · rename_i h1
      split
      · rename_i h2
        exact List.pairwise_cons.2 ⟨fun z hz => by
          rcases mem_ins hz with rfl | hz
          · exact h2
          · exact h'.1 z hz, srt_ins o h'.2⟩
      · rename_i h2
        have he := o.tri h1 h2
        exact List.pairwise_cons.2 ⟨fun z hz => by rw [he]; exact h'.1 z hz, h'.2⟩
def post : List α → List (List α) → List α
  | [], _ => []
  | i :: its, [] => i :: post its []
  | i :: its, k :: ks => i :: (k ++ post its ks)
def weave : List (List α) → List α → List α
  | [], its => its
  | k :: ks, its => k ++ post its ks
def preW : List (List α) → List α → List α
  | a :: A, c :: C => a ++ c :: preW A C
  | _, _ => []
theorem post_append : ∀ {C : List α} {A : List (List α)} {D : List α} {B : List (List α)}, C.length = A.length → post (C ++ D) (A ++ B) = post C A ++ post D B
  | [], [], D, B, _ => rfl
  | c :: C, a :: A, D, B, h => by
    simp only [List.cons_append, post, List.append_assoc]
    rw [post_append (by simpa using h)]
theorem post_cons {c : α} {Z : List α} {k : List α} {ks : List (List α)} : post (c :: Z) (k :: ks) = c :: weave (k :: ks) Z := rfl
/-- Kid number i in its place. -/
theorem weave_at {k : List α} {B : List (List α)} {D : List α} : ∀ {A : List (List α)} {C : List α}, A.length = C.length → weave (A ++ k :: B) (C ++ D) = preW A C ++ (k ++ post D B)
  | [], [], _ => rfl
  | a :: A, c :: C, h => by
    have ih := weave_at (k := k) (B := B) (D := D) (A := A) (C := C) (by simpa using h)
    cases A with
    | nil =>
      cases C with
      | nil => simp [weave, post, preW]
      | cons c C => simp at h
    | cons a' A' =>
      rw [List.cons_append, List.cons_append]
      show a ++ post (c :: (C ++ D)) (a' :: (A' ++ k :: B)) = _
      rw [post_cons]
      rw [List.cons_append] at ih
      rw [ih]
      simp [preW]
/-- Item number m in its place: the parts left and right of it are nodes, too. -/
theorem weave_item {y : α} {D : List α} {B : List (List α)} {A : List (List α)} {C : List α} (h : (A = [] ∧ B = []) ∨ (A.length = C.length + 1 ∧ B ≠ [])) : weave (A ++ B) (C ++ y :: D) = weave A C ++ y :: weave B D := by
  rcases h with ⟨rfl, rfl⟩ | ⟨h1, h2⟩
  · rfl
  · obtain ⟨b, B, rfl⟩ : ∃ b B', B = b :: B' := by
      cases B with
      | nil => exact absurd rfl h2
      | cons b B => exact ⟨b, B, rfl⟩
    cases A with
    | nil => simp at h1
    | cons a A =>
      show a ++ post (C ++ y :: D) (A ++ b :: B) = (a ++ post C A) ++ y :: (b ++ post D B)
      rw [post_append (by simpa using h1.symm)]
      simp [post]
theorem mem_preW {x : α} : ∀ {A : List (List α)} {C : List α}, A.length = C.length → x ∈ preW A C → Srt key lt (preW A C) → (o : Sto lt) → ∃ c ∈ C, x = c ∨ lt (key x) (key c)
  | [], [], _, h, _, _ => by simp [preW] at h
  | a :: A, c :: C, hl, h, hs, o => by
    simp only [preW] at h hs
    have hs' := List.pairwise_append.1 hs
    have hs2 := List.pairwise_cons.1 hs'.2.1
    rcases List.mem_append.1 h with h | h
    · exact ⟨c, by simp, .inr (hs'.2.2 x h c (by simp))⟩
    · rcases List.mem_cons.1 h with rfl | h
      · exact ⟨x, by simp, .inl rfl⟩
      · obtain ⟨d, hd, hx⟩ := mem_preW (by simpa using hl) h hs2.2 o
        exact ⟨d, by simp [hd], hx⟩
theorem mem_post {x : α} : ∀ {D : List α} {B : List (List α)}, D.length = B.length → x ∈ post D B → Srt key lt (post D B) → ∃ d ∈ D, x = d ∨ lt (key d) (key x)
  | [], [], _, h, _ => by simp [post] at h
  | d :: D, b :: B, hl, h, hs => by
    simp only [post] at h hs
    have hs1 := List.pairwise_cons.1 hs
    rcases List.mem_cons.1 h with rfl | h
    · exact ⟨x, by simp, .inl rfl⟩
    · exact ⟨d, by simp, .inr (hs1.1 x h)⟩
/-- What search has found. -/
structure Found (key : α → κ) (lt : κ → κ → Prop) (k : κ) (items : List α) (i : Nat) : Prop where
  le : i ≤ items.length
  lo : ∀ c ∈ items.take i, lt (key c) k
  hi : ∀ d ∈ items.drop i, ¬ lt (key d) k
theorem Found.gt (o : Sto lt) {k : κ} {items : List α} {i : Nat} (h : Found key lt k items i) (hs : Srt key lt items) (hn : ¬ ∃ y, items[i]? = some y ∧ key y = k) : ∀ d ∈ items.drop i, lt k (key d) := fun d hd => by
  by_cases h1 : lt k (key d)
  · exact h1
  · exfalso
    have he := o.tri h1 (h.hi d hd)
    obtain ⟨j, hj, rfl⟩ := List.mem_iff_getElem.1 hd
    have hj' : i + j < items.length := by rw [List.length_drop] at hj; omega
    rw [List.getElem_drop] at he
    cases j with
    | zero => exact hn ⟨items[i], List.getElem?_eq_getElem (by omega), he.symm⟩
    | succ j =>
      have h2 := (List.pairwise_iff_getElem.1 hs) i (i + (j + 1)) (by omega) hj' (by omega)
      rw [← he] at h2
      have h3 := h.hi items[i] (by rw [List.mem_iff_getElem]; exact ⟨0, by rw [List.length_drop]; omega, by simp⟩)
      exact h3 h2
theorem take_get {β : Type} {xs : List β} {i : Nat} {x : β} (h : xs[i]? = some x) : xs = xs.take i ++ x :: xs.drop (i + 1) := by
  obtain ⟨hi, hx⟩ := List.getElem?_eq_some_iff.1 h
  conv => lhs; rw [← List.take_append_drop i xs, List.drop_eq_getElem_cons hi, hx]
theorem srt_items (o : Sto lt) {kids : List (List α)} {items : List α} (h : kids = [] ∨ kids.length = items.length + 1) (hs : Srt key lt (weave kids items)) : Srt key lt items := by
  refine List.Pairwise.sublist ?_ hs
  cases kids with
  | nil => exact List.Sublist.refl _
  | cons k ks =>
    have hl : items.length = ks.length := by
      rcases h with h | h
      · cases h
      · simpa using h.symm
    show List.Sublist items (k ++ post items ks)
    refine List.Sublist.trans ?_ (List.sublist_append_right k _)
    clear hs h
    induction items generalizing ks with
    | nil => exact List.nil_sublist _
    | cons i its ih =>
      cases ks with
      | nil => simp at hl
      | cons q ks => exact List.Sublist.cons_cons _ ((ih ks (by simpa using hl)).trans (List.sublist_append_right q _))
/-- The key was there: its item is turned. -/
theorem ins_item (o : Sto lt) {x y : α} {kids : List (List α)} {items : List α} {i : Nat} (hl : kids = [] ∨ kids.length = items.length + 1) (hy : items[i]? = some y) (he : key y = key x) (hs : Srt key lt (weave kids items)) :
    ins key lt x (weave kids items) = weave kids (items.set i x) := by
  have hi := (List.getElem?_eq_some_iff.1 hy).1
  have e2 := take_get hy
  have hA : (kids.take (i + 1) = [] ∧ kids.drop (i + 1) = []) ∨ ((kids.take (i + 1)).length = (items.take i).length + 1 ∧ kids.drop (i + 1) ≠ []) := by
    rcases hl with rfl | hl
    · exact .inl ⟨by simp, by simp⟩
    · refine .inr ⟨by rw [List.length_take, List.length_take]; omega, fun h0 => ?_⟩
      have := congrArg List.length h0
      rw [List.length_drop, List.length_nil] at this; omega
  have hset : items.set i x = items.take i ++ x :: items.drop (i + 1) := by rw [List.set_eq_take_append_cons_drop, if_pos hi]
  have hw : weave kids items = weave (kids.take (i + 1)) (items.take i) ++ y :: weave (kids.drop (i + 1)) (items.drop (i + 1)) := by
    conv => lhs; rw [← List.take_append_drop (i + 1) kids, e2]
    exact weave_item hA
  rw [hset, hw]
  rw [hw] at hs
  rw [ins_eq o (fun p hp => by rw [← he]; exact (List.pairwise_append.1 hs).2.2 p hp y (by simp)) he]
  conv => rhs; rw [← List.take_append_drop (i + 1) kids]
  exact (weave_item hA).symm
noncomputable def cmpN (lt : κ → κ → Prop) (a b : κ) : Int := if lt a b then -1 else if lt b a then 1 else 0
theorem cmpN_neg {a b : κ} : cmpN lt a b < 0 ↔ lt a b := by
  unfold cmpN
  split
  · rename_i h; exact ⟨fun _ => h, fun _ => by decide⟩
  · rename_i h
    split
    · exact ⟨fun h9 => absurd h9 (by decide), fun h9 => absurd h9 h⟩
    · exact ⟨fun h9 => absurd h9 (by decide), fun h9 => absurd h9 h⟩
theorem cmpN_eq (o : Sto lt) {a b : κ} : cmpN lt a b = 0 ↔ a = b := by
  unfold cmpN
  split
  · rename_i h; exact ⟨fun h9 => absurd h9 (by decide), fun h9 => absurd (h9 ▸ h) (o.irr _)⟩
  · rename_i h
    split
    · rename_i h2; exact ⟨fun h9 => absurd h9 (by decide), fun h9 => absurd (h9 ▸ h2) (o.irr _)⟩
    · rename_i h2; exact ⟨fun _ => o.tri h h2, fun _ => rfl⟩
theorem lo_on (o : Sto lt) {xs : List α} {x : α} {h : Nat} {k : κ} (hs : Srt key lt xs) (hx : xs[h]? = some x) (hl : lt (key x) k) : ∀ c ∈ xs.take (h + 1), lt (key c) k := fun c hc => by
  obtain ⟨hh, rfl⟩ := List.getElem?_eq_some_iff.1 hx
  obtain ⟨j, hj, rfl⟩ := List.mem_iff_getElem.1 hc
  rw [List.length_take] at hj
  rw [List.getElem_take]
  by_cases e : j = h
  · subst e; exact hl
  · exact o.tr ((List.pairwise_iff_getElem.1 hs) j h (by omega) hh (by omega)) hl
theorem hi_on (o : Sto lt) {xs : List α} {x : α} {h : Nat} {k : κ} (hs : Srt key lt xs) (hx : xs[h]? = some x) (hl : ¬ lt (key x) k) : ∀ d ∈ xs.drop h, ¬ lt (key d) k := fun d hd => by
  obtain ⟨hh, rfl⟩ := List.getElem?_eq_some_iff.1 hx
  obtain ⟨j, hj, rfl⟩ := List.mem_iff_getElem.1 hd
  rw [List.length_drop] at hj
  rw [List.getElem_drop]
  intro h9
  by_cases e : j = 0
  · subst e; exact hl h9
  · exact hl (o.tr ((List.pairwise_iff_getElem.1 hs) h (h + j) hh (by omega) (by omega)) h9)
theorem weave_part {kids : List (List α)} {items : List α} {m : Nat} {y : α} (hl : kids = [] ∨ kids.length = items.length + 1) (hy : items[m]? = some y) :
    weave kids items = weave (kids.take (m + 1)) (items.take m) ++ y :: weave (kids.drop (m + 1)) (items.drop (m + 1)) := by
  have hi := (List.getElem?_eq_some_iff.1 hy).1
  have hA : (kids.take (m + 1) = [] ∧ kids.drop (m + 1) = []) ∨ ((kids.take (m + 1)).length = (items.take m).length + 1 ∧ kids.drop (m + 1) ≠ []) := by
    rcases hl with rfl | hl
    · exact .inl ⟨by simp, by simp⟩
    · refine .inr ⟨by rw [List.length_take, List.length_take]; omega, fun h0 => ?_⟩
      have := congrArg List.length h0
      rw [List.length_drop, List.length_nil] at this; omega
  conv => lhs; rw [← List.take_append_drop (m + 1) kids, take_get hy]
  exact weave_item hA
theorem weave_set {k : List α} {kids : List (List α)} {items : List α} {i : Nat} (hl : kids.length = items.length + 1) (hi : i ≤ items.length) :
    weave (kids.set i k) items = preW (kids.take i) (items.take i) ++ (k ++ post (items.drop i) (kids.drop (i + 1))) := by
  rw [List.set_eq_take_append_cons_drop, if_pos (by omega)]
  conv => lhs; rw [← List.take_append_drop i items]
  exact weave_at (by rw [List.length_take, List.length_take]; omega)
theorem weave_two {ls rs : List α} {m : α} {kids : List (List α)} {items : List α} {i : Nat} (hl : kids.length = items.length + 1) (hi : i ≤ items.length) :
    weave (kids.take i ++ ls :: rs :: kids.drop (i + 1)) (items.take i ++ m :: items.drop i) = preW (kids.take i) (items.take i) ++ ((ls ++ m :: rs) ++ post (items.drop i) (kids.drop (i + 1))) := by
  rw [weave_at (by rw [List.length_take, List.length_take]; omega)]
  simp [post]
end
theorem bl_irr : ∀ a : List UInt8, Go.Op.bytesLess a a = false
  | [] => rfl
  | x :: a => by
    have hx : ¬ x < x := by rw [UInt8.lt_iff_toNat_lt]; omega
    simp [Go.Op.bytesLess, bl_irr a, hx]
theorem bl_tr : ∀ {a b c : List UInt8}, Go.Op.bytesLess a b = true → Go.Op.bytesLess b c = true → Go.Op.bytesLess a c = true
  | _, [], _, h, _ => by simp [Go.Op.bytesLess] at h
  | _, _ :: _, [], _, h => by simp [Go.Op.bytesLess] at h
  | [], _ :: _, _ :: _, _, _ => rfl
  | x :: a, y :: b, z :: c, h1, h2 => by
    simp only [Go.Op.bytesLess, Bool.or_eq_true, Bool.and_eq_true, decide_eq_true_eq, beq_iff_eq] at h1 h2 ⊢
    rw [UInt8.lt_iff_toNat_lt] at h1 h2 ⊢
    rcases h1 with h1 | ⟨rfl, h1⟩
    · rcases h2 with h2 | ⟨rfl, h2⟩
      · exact .inl (by omega)
      · exact .inl h1
    · rcases h2 with h2 | ⟨rfl, h2⟩
      · exact .inl h2
      · exact .inr ⟨rfl, bl_tr h1 h2⟩
theorem bl_tri : ∀ {a b : List UInt8}, Go.Op.bytesLess a b = false → Go.Op.bytesLess b a = false → a = b
  | [], [], _, _ => rfl
  | [], _ :: _, h, _ => by simp [Go.Op.bytesLess] at h
  | _ :: _, [], _, h => by simp [Go.Op.bytesLess] at h
  | x :: a, y :: b, h1, h2 => by
    simp only [Go.Op.bytesLess, Bool.or_eq_false_iff, Bool.and_eq_false_iff, decide_eq_false_iff_not, beq_eq_false_iff_ne] at h1 h2
    rw [UInt8.lt_iff_toNat_lt] at h1 h2
    have hxy : x = y := UInt8.toNat_inj.1 (by omega)
    subst hxy
    rw [bl_tri (h1.2.resolve_left (by simp)) (h2.2.resolve_left (by simp))]
def strlt (a b : ByteArray) : Prop := slt a b = true
theorem ba_ext {a b : ByteArray} (h : a.data.toList = b.data.toList) : a = b := by
  cases a; cases b
  simp at h
  rw [h]
theorem strlt_tri {a b : ByteArray} (h1 : ¬ strlt a b) (h2 : ¬ strlt b a) : a = b := by
  unfold strlt slt at h1 h2
  exact ba_ext (bl_tri (by simpa using h1) (by simpa using h2))
theorem strlt_sto : Sto strlt := ⟨fun a h => (by unfold strlt slt at h; rw [bl_irr] at h; cases h), fun h1 h2 => bl_tr h1 h2, strlt_tri⟩
theorem slt_not {a b : ByteArray} : (!(slt a b || decide (a = b))) = slt b a := by
  rw [Bool.eq_iff_iff]
  simp only [Bool.not_eq_true', Bool.or_eq_false_iff, decide_eq_false_iff_not]
  constructor
  · rintro ⟨h1, h2⟩
    exact Classical.byContradiction fun h3 => h2 (strlt_sto.tri (a := a) (b := b) (by unfold strlt; rw [h1]; simp) h3)
  · intro h
    refine ⟨?_, fun h2 => ?_⟩
    · cases h1 : slt a b with
      | false => rfl
      | true => exact absurd (strlt_sto.tr (a := a) (b := b) (c := a) h1 h) (strlt_sto.irr a)
    · subst h2; exact strlt_sto.irr a h
theorem b_sgtr {P : Go.Program} {t : Go.TypeId} {x y : Go.Operand} {s u : ByteArray} : BinV P .gtr t x y (.string s) (.string u) (.bool (slt u s)) := fun w => by
  have h9 : (s.data == u.data) = decide (s = u) := by
    rw [Bool.eq_iff_iff]
    simp only [beq_iff_eq, decide_eq_true_eq]
    exact ⟨fun h => by cases s; cases u; simp at h; rw [h], fun h => by rw [h]⟩
  rw [← slt_not]
  simp [Go.eqGuard, Go.binOp, Go.Op.stringOp, toList_eq_iff, slt, ByteArray.toList_eq, h9]
theorem shr1u (m : Nat) : ((m : Nat) : Int).fdiv (2 ^ (min (1 : Int).toNat IntKind.u64.bits)) = ((m / 2 : Nat) : Int) := by
  show Int.fdiv _ 2 = _
  rw [Int.fdiv_eq_ediv_of_nonneg _ (by omega)]; omega
end
section
set_option linter.unusedVariables false
set_option linter.unusedSimpArgs false
open Go.RowKit Classical
structure NodeW (α : Type) where
  a : Option Addr
  c : Nat
  ak : Option Addr
  ck : Nat
  items : List α
  kids : List (Nat × List α)
section
variable {α κ β : Type} {key : α → κ} {lt : κ → κ → Prop} {val : α → β} {zero : β} (eI : Enc α) (eK : Enc Nat) (TN : Nat)
def Shape (d : Nat) (items : List α) (kids : List (Nat × List α)) : Prop := (d = 0 ∧ kids = []) ∨ (d ≠ 0 ∧ kids.length = items.length + 1 ∧ 1 ≤ items.length)
structure okN (mn d : Nat) (q : NodeW α) (xs : List α) : Prop where
  mn : mn ≤ q.items.length
  le : q.items.length ≤ 5
  is : xs = weave (q.kids.map Prod.snd) q.items
  sh : Shape d q.items q.kids
def nodeL (b : Nat) (q : NodeW α) (Ks : List Res) : List Res :=
  [blk b (.cells #[.slice q.a q.items.length q.c, .slice q.ak (q.kids.map Prod.fst).length q.ck] TN (0, 0)), row eI.T eI.sz q.a q.items.length q.c (flat eI q.items), row eK.T eK.sz q.ak (q.kids.map Prod.fst).length q.ck (flat eK (q.kids.map Prod.fst)), stars Ks]
def nodeR : Nat → Nat → Nat → List α → Res
  | 0, mn, b, xs => obj (fun q => okN mn 0 q xs) (fun q => nodeL eI eK TN b q (q.kids.map fun _ => emp))
  | d + 1, mn, b, xs => obj (fun q => okN mn (d + 1) q xs) (fun q => nodeL eI eK TN b q (q.kids.map fun k => nodeR d 2 k.1 k.2))
def kidR : Nat → Nat × List α → Res
  | 0, _ => emp
  | d + 1, k => nodeR eI eK TN d 2 k.1 k.2
def kidsR (d : Nat) (ks : List (Nat × List α)) : Res := stars (ks.map (kidR eI eK TN d))
theorem nodeR_eq (d mn b : Nat) (xs : List α) : nodeR eI eK TN d mn b xs = obj (fun q => okN mn d q xs) (fun q => nodeL eI eK TN b q (q.kids.map (kidR eI eK TN d))) := by cases d <;> rfl
variable {eI eK TN} {P : Program} {N : FN} {l : Fr} {W w : World} {L : List Res} {Q : Exit → Act → World → Prop} {ops : Array Oper} {rest : List Oper} {cd : Code} {d mn b : Nat} {xs : List α}
theorem nodeOpen (S : Sat W w (nodeR eI eK TN d mn b xs :: L)) : ∃ q : NodeW α, okN mn d q xs ∧ Sat W w (blk b (.cells #[.slice q.a q.items.length q.c, .slice q.ak (q.kids.map Prod.fst).length q.ck] TN (0, 0)) :: row eI.T eI.sz q.a q.items.length q.c (flat eI q.items) :: row eK.T eK.sz q.ak (q.kids.map Prod.fst).length q.ck (flat eK (q.kids.map Prod.fst)) :: kidsR eI eK TN d q.kids :: L) := by
  rw [nodeR_eq] at S
  obtain ⟨q, hq, S'⟩ := S.obj_open
  exact ⟨q, hq, S'⟩
theorem nodeMk (q : NodeW α) (hq : okN mn d q xs) (S : Sat W w (blk b (.cells #[.slice q.a q.items.length q.c, .slice q.ak (q.kids.map Prod.fst).length q.ck] TN (0, 0)) :: row eI.T eI.sz q.a q.items.length q.c (flat eI q.items) :: row eK.T eK.sz q.ak (q.kids.map Prod.fst).length q.ck (flat eK (q.kids.map Prod.fst)) :: kidsR eI eK TN d q.kids :: L)) : Sat W w (nodeR eI eK TN d mn b xs :: L) := by
  rw [nodeR_eq]
  exact Sat.obj_mk q hq S
theorem c_node (h : ∀ q : NodeW α, okN mn d q xs → WC P cd Q N l W (blk b (.cells #[.slice q.a q.items.length q.c, .slice q.ak (q.kids.map Prod.fst).length q.ck] TN (0, 0)) :: row eI.T eI.sz q.a q.items.length q.c (flat eI q.items) :: row eK.T eK.sz q.ak (q.kids.map Prod.fst).length q.ck (flat eK (q.kids.map Prod.fst)) :: kidsR eI eK TN d q.kids :: L)) : WC P cd Q N l W (nodeR eI eK TN d mn b xs :: L) := fun a w K S =>
  let ⟨q, hq, S'⟩ := nodeOpen S; h q hq a w K S'
theorem Sat.stars_perm {Rs Rs' : List Res} (h : Rs.Perm Rs') (S : Sat W w (stars Rs :: L)) : Sat W w (stars Rs' :: L) := (S.flat.perm (h.append_right L)).unflat
theorem Sat.stars_two {A B : List Res} (S : Sat W w (stars (A ++ B) :: L)) : Sat W w (stars A :: stars B :: L) := by
  have h := S.flat
  rw [List.append_assoc] at h
  have h2 : Sat W w (B ++ (stars A :: L)) := (Sat.unflat (Ls := A) h).perm (List.perm_middle.symm : (stars A :: (B ++ L)).Perm (B ++ stars A :: L))
  exact (h2.unflat).perm (List.Perm.swap _ _ _)
theorem Sat.kids_part {ks : List (Nat × List α)} (m : Nat) (S : Sat W w (kidsR eI eK TN d ks :: L)) : Sat W w (kidsR eI eK TN d (ks.take m) :: kidsR eI eK TN d (ks.drop m) :: L) := by
  refine Sat.stars_two ?_
  rw [← List.map_append, List.take_append_drop]
  exact S
theorem erase_perm {β : Type} {ks : List β} {i : Nat} {k : β} (hk : ks[i]? = some k) : (k :: ks.eraseIdx i).Perm ks := by
  have h := take_get hk
  rw [List.eraseIdx_eq_take_drop_succ]
  conv => rhs; rw [h]
  exact List.perm_middle.symm
theorem set_perm {β : Type} {ks : List β} {i : Nat} {k : β} (hi : i < ks.length) : (ks.set i k).Perm (k :: ks.eraseIdx i) := by
  rw [List.set_eq_take_append_cons_drop, if_pos hi, List.eraseIdx_eq_take_drop_succ]
  exact List.perm_middle
theorem Sat.kid_take {ks : List (Nat × List α)} {i : Nat} {k : Nat × List α} (hk : ks[i]? = some k) (S : Sat W w (kidsR eI eK TN d ks :: L)) : Sat W w (kidR eI eK TN d k :: kidsR eI eK TN d (ks.eraseIdx i) :: L) := by
  have hp := erase_perm hk
  exact Sat.stars_cons (Rs := (ks.eraseIdx i).map (kidR eI eK TN d)) (S.stars_perm (hp.symm.map (kidR eI eK TN d)))
theorem Sat.kid_back {ks : List (Nat × List α)} {i : Nat} {k : Nat × List α} (hk : ks[i]? = some k) (S : Sat W w (kidR eI eK TN d k :: kidsR eI eK TN d (ks.eraseIdx i) :: L)) : Sat W w (kidsR eI eK TN d ks :: L) :=
  (Sat.stars_uncons S).stars_perm ((erase_perm hk).map (kidR eI eK TN d))
theorem Sat.kid_set {ks : List (Nat × List α)} {i : Nat} {k : Nat × List α} (hi : i < ks.length) (S : Sat W w (kidR eI eK TN d k :: kidsR eI eK TN d (ks.eraseIdx i) :: L)) : Sat W w (kidsR eI eK TN d (ks.set i k) :: L) := by
  have hp := set_perm (k := k) hi
  exact (Sat.stars_uncons S).stars_perm ((hp.symm).map (kidR eI eK TN d))
theorem Sat.kid_two {ks : List (Nat × List α)} {i : Nat} {k k2 : Nat × List α} (hi : i < ks.length) (S : Sat W w (kidR eI eK TN d k :: kidR eI eK TN d k2 :: kidsR eI eK TN d (ks.eraseIdx i) :: L)) : Sat W w (kidsR eI eK TN d (ks.take i ++ k :: k2 :: ks.drop (i + 1)) :: L) := by
  have S1 := (Sat.stars_uncons (S.perm (List.Perm.swap _ _ _)).tail)
  have S2 : Sat W w (stars (((k :: k2 :: ks.eraseIdx i)).map (kidR eI eK TN d)) :: L) := by
    have := Sat.stars_uncons ((S.perm (List.Perm.refl _) : Sat W w (kidR eI eK TN d k :: kidR eI eK TN d k2 :: kidsR eI eK TN d (ks.eraseIdx i) :: L)).conv (L' := kidR eI eK TN d k :: stars (kidR eI eK TN d k2 :: (ks.eraseIdx i).map (kidR eI eK TN d)) :: L) fun h hs => ?_)
    · exact this
    · exact star_mono (fun _ x => x) (fun _ x => star_assoc.2 x) hs
  refine S2.stars_perm (List.Perm.map _ ?_)
  rw [List.eraseIdx_eq_take_drop_succ]
  exact ((List.perm_middle (a := k2)).symm.cons k).trans (List.perm_middle (a := k)).symm
/-- What put may hand up: the middle item, the node right of it. -/
def midR (eI : Enc α) (eK : Enc Nat) (TN : Nat) (d : Nat) : Option (Nat × α × Nat × List α) → Res
  | none => emp
  | some z => stars [blk z.1 (.cells (eI.cells z.2.1).toArray eI.T (0, 0)), nodeR eI eK TN d 2 z.2.2.1 z.2.2.2]
def insS (ls : List α) : Option (Nat × α × Nat × List α) → List α
  | none => ls
  | some z => ls ++ z.2.1 :: z.2.2.2
def mnO (mn : Nat) : Option (Nat × α × Nat × List α) → Nat
  | none => mn
  | some _ => 2
structure Old (key : α → κ) (val : α → β) (zero : β) (x : α) (xs : List α) (old : β) (had : Bool) : Prop where
  hadI : had = true ↔ ∃ y ∈ xs, key y = key x
  old1 : ∀ y ∈ xs, key y = key x → old = val y
  old0 : had = false → old = zero
structure PutMid (key : α → κ) (lt : κ → κ → Prop) (val : α → β) (zero : β) (d mn : Nat) (x : α) (xs items : List α) (kids : List (Nat × List α)) (old : β) (had : Bool) : Prop where
  mn : mn ≤ items.length
  le : items.length ≤ 6
  is : ins key lt x xs = weave (kids.map Prod.snd) items
  sh : Shape d items kids
  old : Old key val zero x xs old had
theorem Shape.or {items : List α} {kids : List (Nat × List α)} (h : Shape d items kids) : kids.map Prod.snd = [] ∨ (kids.map Prod.snd).length = items.length + 1 := by
  rcases h with ⟨_, h⟩ | ⟨_, h, _⟩
  · exact .inl (by rw [h]; rfl)
  · exact .inr (by rw [List.length_map]; exact h)
theorem okN.srt (o : Sto lt) {q : NodeW α} (h : okN mn d q xs) (hs : Srt key lt xs) : Srt key lt q.items := by
  have h1 := hs
  rw [h.is] at h1
  exact srt_items o h.sh.or h1
theorem mem_weave_item {kids : List (List α)} {items : List α} {i : Nat} {y : α} (hl : kids = [] ∨ kids.length = items.length + 1) (hy : items[i]? = some y) : y ∈ weave kids items := by
  rw [weave_part hl hy]; simp
/-- One key stands once. -/
theorem srt_uniq (o : Sto lt) (hs : Srt key lt xs) {y z : α} (hy : y ∈ xs) (hz : z ∈ xs) (h : key y = key z) : y = z := by
  obtain ⟨i, hi, rfl⟩ := List.mem_iff_getElem.1 hy
  obtain ⟨j, hj, rfl⟩ := List.mem_iff_getElem.1 hz
  rcases Nat.lt_trichotomy i j with h1 | h1 | h1
  · exact absurd ((List.pairwise_iff_getElem.1 hs) i j hi hj h1) (by rw [h]; exact o.irr _)
  · subst h1; rfl
  · exact absurd ((List.pairwise_iff_getElem.1 hs) j i hj hi h1) (by rw [h]; exact o.irr _)
/-- put: the key was there. -/
theorem put_found (o : Sto lt) {q : NodeW α} (h : okN mn d q xs) (hs : Srt key lt xs) {x y y2 : α} {i : Nat} (hy : q.items[i]? = some y) (he : key y = key x) (h2 : y2 = x) (a : Option Addr) (c : Nat) : okN mn d ⟨a, c, q.ak, q.ck, q.items.set i y2, q.kids⟩ (ins key lt x xs) ∧ Old key val zero x xs (val y) true := by
  subst h2
  have hs' := hs
  rw [h.is] at hs'
  have hsh := h.sh
  refine ⟨⟨by rw [List.length_set]; exact h.mn, by rw [List.length_set]; exact h.le, ?_, by unfold Shape at *; rw [List.length_set]; exact hsh⟩, ⟨⟨fun _ => ⟨y, ?_, he⟩, fun _ => rfl⟩, fun z hz hk => ?_, fun h => by cases h⟩⟩
  · rw [h.is]; exact ins_item o hsh.or hy he hs'
  · rw [h.is]; exact mem_weave_item hsh.or hy
  · have hy' : y ∈ xs := by rw [h.is]; exact mem_weave_item hsh.or hy
    rw [srt_uniq o hs hy' hz (he.trans hk.symm)]
/-- put: into a leaf. -/
theorem put_leaf (o : Sto lt) {q : NodeW α} (h : okN mn d q xs) (hs : Srt key lt xs) {x : α} {i : Nat} (hk : (q.kids.map Prod.fst).length = 0) (hf : Found key lt (key x) q.items i) (hn : ¬ ∃ y, q.items[i]? = some y ∧ key y = key x) :
    PutMid key lt val zero d mn x xs (q.items.take i ++ x :: q.items.drop i) q.kids zero false := by
  have hk' : q.kids = [] := List.eq_nil_of_length_eq_zero (by rwa [List.length_map] at hk)
  have hsi := h.srt o hs
  have hg := hf.gt o hsi hn
  have hx : xs = q.items := by rw [h.is, hk']; rfl
  have hlen : (q.items.take i ++ x :: q.items.drop i).length = q.items.length + 1 := by
    have := hf.le
    rw [List.length_append, List.length_take, List.length_cons, List.length_drop]; omega
  have hne : ∀ y ∈ xs, key y ≠ key x := fun y hy he => by
    rw [hx, ← List.take_append_drop i q.items] at hy
    rcases List.mem_append.1 hy with hy | hy
    · exact o.irr _ (he ▸ hf.lo y hy)
    · exact o.irr _ (he ▸ hg y hy)
  refine ⟨by rw [hlen]; have := h.mn; omega, by rw [hlen]; have := h.le; omega, ?_, ?_, ⟨⟨fun h9 => (by cases h9), fun ⟨y, hy, he⟩ => absurd he (hne y hy)⟩, fun y hy he => absurd he (hne y hy), fun _ => rfl⟩⟩
  · rw [hx, hk']
    show _ = q.items.take i ++ x :: q.items.drop i
    conv => lhs; rw [← List.take_append_drop i q.items]
    rw [ins_pre o hf.lo, ins_gt hg]
  · rcases h.sh with ⟨h1, _⟩ | ⟨_, h1, _⟩
    · exact .inl ⟨h1, hk'⟩
    · rw [hk'] at h1; simp at h1
/-- put: the parts of a node around kid number i. -/
theorem kid_parts (o : Sto lt) {q : NodeW α} (h : okN mn d q xs) (hs : Srt key lt xs) {x : α} {i : Nat} {kb : Nat} {ys : List α} (hk : q.kids[i]? = some (kb, ys)) (hf : Found key lt (key x) q.items i) (hn : ¬ ∃ y, q.items[i]? = some y ∧ key y = key x) :
    ∃ A B, xs = A ++ (ys ++ B) ∧ A = preW ((q.kids.map Prod.snd).take i) (q.items.take i) ∧ B = post (q.items.drop i) ((q.kids.map Prod.snd).drop (i + 1)) ∧ (∀ p ∈ A, lt (key p) (key x)) ∧ (∀ s ∈ B, lt (key x) (key s)) ∧ q.kids.length = q.items.length + 1 ∧ d ≠ 0 ∧ Srt key lt ys := by
  have hi := (List.getElem?_eq_some_iff.1 hk).1
  obtain ⟨hd, hl⟩ : d ≠ 0 ∧ q.kids.length = q.items.length + 1 := by
    rcases h.sh with ⟨_, h1⟩ | ⟨h0, h1, _⟩
    · rw [h1] at hi; simp at hi
    · exact ⟨h0, h1⟩
  have hle := hf.le
  have hl2 : (q.kids.map Prod.snd).length = q.items.length + 1 := by rw [List.length_map]; exact hl
  have hk2 : (q.kids.map Prod.snd)[i]? = some ys := by rw [List.getElem?_map, hk]; rfl
  have hg := hf.gt o (h.srt o hs) hn
  have hw : xs = preW ((q.kids.map Prod.snd).take i) (q.items.take i) ++ (ys ++ post (q.items.drop i) ((q.kids.map Prod.snd).drop (i + 1))) := by
    rw [h.is]
    conv => lhs; rw [take_get hk2, ← List.take_append_drop i q.items]
    exact weave_at (by rw [List.length_take, List.length_take]; omega)
  have hs' := hs
  rw [hw] at hs'
  have hsp := List.pairwise_append.1 hs'
  have hsq := List.pairwise_append.1 hsp.2.1
  refine ⟨_, _, hw, rfl, rfl, fun p hp => ?_, fun s hsx => ?_, hl, hd, hsq.1⟩
  · obtain ⟨c, hc, h9⟩ := mem_preW (by rw [List.length_take, List.length_take]; omega) hp hsp.1 o
    rcases h9 with rfl | h9
    · exact hf.lo p hc
    · exact o.tr h9 (hf.lo c hc)
  · obtain ⟨e, he, h9⟩ := mem_post (by rw [List.length_drop, List.length_drop]; omega) hsx hsq.2.1
    rcases h9 with rfl | h9
    · exact hg s he
    · exact o.tr (hg e he) h9
theorem Old.up (o : Sto lt) {x : α} {A ys B : List α} {old : β} {had : Bool} (h : Old key val zero x ys old had) (hA : ∀ p ∈ A, lt (key p) (key x)) (hB : ∀ s ∈ B, lt (key x) (key s)) : Old key val zero x (A ++ (ys ++ B)) old had := by
  have hin : ∀ y ∈ A ++ (ys ++ B), key y = key x → y ∈ ys := fun y hy he => by
    rcases List.mem_append.1 hy with hy | hy
    · exact absurd (he ▸ hA y hy) (o.irr _)
    · rcases List.mem_append.1 hy with hy | hy
      · exact hy
      · exact absurd (he ▸ hB y hy) (o.irr _)
  exact ⟨h.hadI.trans ⟨fun ⟨y, hy, he⟩ => ⟨y, by simp [hy], he⟩, fun ⟨y, hy, he⟩ => ⟨y, hin y hy he, he⟩⟩, fun y hy he => h.old1 y (hin y hy he) he, h.old0⟩
/-- put: into kid number i, which holds all. -/
theorem put_kid (o : Sto lt) {q : NodeW α} (h : okN mn d q xs) (hs : Srt key lt xs) {x : α} {i kb : Nat} {ys ls : List α} {old : β} {had : Bool} (hk : q.kids[i]? = some (kb, ys)) (hf : Found key lt (key x) q.items i) (hn : ¬ ∃ y, q.items[i]? = some y ∧ key y = key x) (hi : ins key lt x ys = ls) (ho : Old key val zero x ys old had) :
    PutMid key lt val zero d mn x xs q.items (q.kids.set i (kb, ls)) old had := by
  obtain ⟨A, B, hx, hA, hB, h1, h2, hl, hd, _⟩ := kid_parts o h hs hk hf hn
  have hl2 : (q.kids.map Prod.snd).length = q.items.length + 1 := by rw [List.length_map]; exact hl
  refine ⟨h.mn, by have := h.le; omega, ?_, ?_, by rw [hx]; exact ho.up o h1 h2⟩
  · rw [hx, ins_mid o h1 h2, hi, List.map_set, weave_set hl2 hf.le, ← hA, ← hB]
  · rcases h.sh with ⟨h9, _⟩ | ⟨_, _, h9⟩
    · exact absurd h9 hd
    · exact .inr ⟨hd, by rw [List.length_set]; exact hl, h9⟩
/-- put: into kid number i, which is parted. -/
theorem put_part (o : Sto lt) {q : NodeW α} (h : okN mn d q xs) (hs : Srt key lt xs) {x m : α} {i kb br : Nat} {ys ls rs : List α} {old : β} {had : Bool} (hk : q.kids[i]? = some (kb, ys)) (hf : Found key lt (key x) q.items i) (hn : ¬ ∃ y, q.items[i]? = some y ∧ key y = key x) (hi : ins key lt x ys = ls ++ m :: rs) (ho : Old key val zero x ys old had) :
    PutMid key lt val zero d mn x xs (q.items.take i ++ m :: q.items.drop i) (q.kids.take i ++ (kb, ls) :: (br, rs) :: q.kids.drop (i + 1)) old had := by
  obtain ⟨A, B, hx, hA, hB, h1, h2, hl, hd, _⟩ := kid_parts o h hs hk hf hn
  have hl2 : (q.kids.map Prod.snd).length = q.items.length + 1 := by rw [List.length_map]; exact hl
  have hle := hf.le
  have hlen : (q.items.take i ++ m :: q.items.drop i).length = q.items.length + 1 := by
    rw [List.length_append, List.length_take, List.length_cons, List.length_drop]; omega
  refine ⟨by rw [hlen]; have := h.mn; omega, by rw [hlen]; have := h.le; omega, ?_, ?_, by rw [hx]; exact ho.up o h1 h2⟩
  · rw [hx, ins_mid o h1 h2, hi, List.map_append, List.map_cons, List.map_cons, List.map_take, List.map_drop, weave_two hl2 hle, ← hA, ← hB]
  · exact .inr ⟨hd, by rw [hlen, List.length_append, List.length_take, List.length_cons, List.length_cons, List.length_drop]; omega, by rw [hlen]; omega⟩
/-- put: the node has room. -/
theorem PutMid.fits {x : α} {items : List α} {kids : List (Nat × List α)} {old : β} {had : Bool} (h : PutMid key lt val zero d mn x xs items kids old had) (h5 : items.length ≤ 5) (a : Option Addr) (c : Nat) (ak : Option Addr) (ck : Nat) : okN mn d ⟨a, c, ak, ck, items, kids⟩ (ins key lt x xs) := ⟨h.mn, h5, h.is, h.sh⟩
/-- put: the node is parted. -/
theorem PutMid.parts {x m : α} {items : List α} {kids : List (Nat × List α)} {old : β} {had : Bool} (h : PutMid key lt val zero d mn x xs items kids old had) (h5 : ¬ items.length ≤ 5) (hm : items[2]? = some m) :
    (∀ a c ak ck, okN 2 d ⟨a, c, ak, ck, items.take 2, kids.take 3⟩ (weave ((kids.take 3).map Prod.snd) (items.take 2))) ∧ (∀ a c ak ck, okN 2 d ⟨a, c, ak, ck, items.drop 3, kids.drop 3⟩ (weave ((kids.drop 3).map Prod.snd) (items.drop 3))) ∧
      ins key lt x xs = weave ((kids.take 3).map Prod.snd) (items.take 2) ++ m :: weave ((kids.drop 3).map Prod.snd) (items.drop 3) := by
  have h6 := h.le
  refine ⟨fun a c ak ck => ⟨?_, ?_, rfl, ?_⟩, fun a c ak ck => ⟨?_, ?_, rfl, ?_⟩, ?_⟩
  · show 2 ≤ (items.take 2).length; rw [List.length_take]; omega
  · show (items.take 2).length ≤ 5; rw [List.length_take]; omega
  · rcases h.sh with ⟨h1, h2⟩ | ⟨h1, h2, h3⟩
    · exact .inl ⟨h1, by show kids.take 3 = []; rw [h2]; rfl⟩
    · exact .inr ⟨h1, by show (kids.take 3).length = (items.take 2).length + 1; rw [List.length_take, List.length_take]; omega, by show 1 ≤ (items.take 2).length; rw [List.length_take]; omega⟩
  · show 2 ≤ (items.drop 3).length; rw [List.length_drop]; omega
  · show (items.drop 3).length ≤ 5; rw [List.length_drop]; omega
  · rcases h.sh with ⟨h1, h2⟩ | ⟨h1, h2, h3⟩
    · exact .inl ⟨h1, by show kids.drop 3 = []; rw [h2]; rfl⟩
    · exact .inr ⟨h1, by show (kids.drop 3).length = (items.drop 3).length + 1; rw [List.length_drop, List.length_drop]; omega, by show 1 ≤ (items.drop 3).length; rw [List.length_drop]; omega⟩
  · rw [h.is, List.map_take, List.map_drop]
    exact weave_part h.sh.or hm
theorem kids_fst {ks : List (Nat × List α)} {i kb br : Nat} {ys ls rs : List α} (hk : ks[i]? = some (kb, ys)) : (ks.map Prod.fst).take (i + 1) ++ br :: (ks.map Prod.fst).drop (i + 1) = (ks.take i ++ (kb, ls) :: (br, rs) :: ks.drop (i + 1)).map Prod.fst := by
  have h : (ks.map Prod.fst)[i]? = some kb := by rw [List.getElem?_map, hk]; rfl
  obtain ⟨hi, hx⟩ := List.getElem?_eq_some_iff.1 h
  rw [List.take_succ_eq_append_getElem hi, hx, List.map_append, List.map_cons, List.map_cons, List.map_take, List.map_drop]
  simp
theorem kids_fst_set {ks : List (Nat × List α)} {i kb : Nat} {ys ls : List α} (hk : ks[i]? = some (kb, ys)) : ks.map Prod.fst = (ks.set i (kb, ls)).map Prod.fst := by
  obtain ⟨hi, hx⟩ := List.getElem?_eq_some_iff.1 hk
  rw [List.map_set]
  refine (List.ext_getElem? fun j => ?_)
  rw [List.getElem?_set]
  split
  · rename_i h; subst h; rw [if_pos (by rw [List.length_map]; exact hi), List.getElem?_map, hk]; rfl
  · rfl
/-- put: a leaf is parted. -/
theorem put_end0 {items : List α} {kids : List (Nat × List α)} {a ak a2 : Option Addr} {c ck c2 bm br : Nat} {m : α} {ls rs : List α} (okI : EncOk P eI) (h6 : 6 ≤ items.length) (hk : kids = [])
    (hL : okN 2 d ⟨a, 2, ak, ck, items.take 2, kids.take 3⟩ ls) (hR : okN 2 d ⟨a2, c2, none, 0, items.drop 3, kids.drop 3⟩ rs)
    (S : Sat W w (blk b (.cells #[.slice a 2 2, .slice ak (kids.map Prod.fst).length ck] TN (0, 0)) :: row eI.T eI.sz a items.length c (flat eI items) :: row eK.T eK.sz ak (kids.map Prod.fst).length ck (flat eK (kids.map Prod.fst)) :: kidsR eI eK TN d kids :: blk bm (.cells (eI.cells m).toArray eI.T (0, 0)) :: blk br (.cells #[.slice a2 (items.drop 3).length c2, .slice none 0 0] TN (0, 0)) :: row eI.T eI.sz a2 (items.drop 3).length c2 (flat eI (items.drop 3)) :: L)) :
    Sat W w (nodeR eI eK TN d 2 b ls :: midR eI eK TN d (some (bm, m, br, rs)) :: L) := by
  subst hk
  have hp : ∀ (A B C D E F G : Res) (L : List Res), (A :: B :: C :: D :: E :: F :: G :: L).Perm (B :: A :: C :: D :: E :: F :: G :: L) := fun A B C D E F G L => List.Perm.swap _ _ _
  have S1 := S.perm (List.Perm.swap _ _ _)
  have hcap := row_capL S1
  have S2 := S1.row_cut (n' := 2) (c' := 2) (by omega) (by omega) (by omega) (by omega)
  rw [← flat_take okI] at S2
  have hlt : (items.take 2).length = 2 := by rw [List.length_take]; omega
  have S3 : Sat W w (blk b (.cells #[.slice a (items.take 2).length 2, .slice ak 0 ck] TN (0, 0)) :: row eI.T eI.sz a (items.take 2).length 2 (flat eI (items.take 2)) :: row eK.T eK.sz ak 0 ck [] :: kidsR eI eK TN d [] :: blk bm (.cells (eI.cells m).toArray eI.T (0, 0)) :: blk br (.cells #[.slice a2 (items.drop 3).length c2, .slice none 0 0] TN (0, 0)) :: row eI.T eI.sz a2 (items.drop 3).length c2 (flat eI (items.drop 3)) :: L) := by
    rw [hlt]; exact S2.perm (List.Perm.swap _ _ _)
  have S4 := nodeMk (eI := eI) (eK := eK) (TN := TN) _ hL S3
  -- the right one
  have S5 := (S4.perm (List.perm_middle.symm : (nodeR eI eK TN d 2 b ls :: ([blk bm (.cells (eI.cells m).toArray eI.T (0, 0)), blk br (.cells #[.slice a2 (items.drop 3).length c2, .slice none 0 0] TN (0, 0)), row eI.T eI.sz a2 (items.drop 3).length c2 (flat eI (items.drop 3))] ++ L)).Perm _))
  have S6 : Sat W w (row eK.T eK.sz none 0 0 [] :: kidsR eI eK TN d [] :: blk bm (.cells (eI.cells m).toArray eI.T (0, 0)) :: blk br (.cells #[.slice a2 (items.drop 3).length c2, .slice none 0 0] TN (0, 0)) :: row eI.T eI.sz a2 (items.drop 3).length c2 (flat eI (items.drop 3)) :: nodeR eI eK TN d 2 b ls :: L) := Sat.own_nil (Sat.stars_nil S5)
  have S7 : Sat W w (blk br (.cells #[.slice a2 (items.drop 3).length c2, .slice none 0 0] TN (0, 0)) :: row eI.T eI.sz a2 (items.drop 3).length c2 (flat eI (items.drop 3)) :: row eK.T eK.sz none 0 0 [] :: kidsR eI eK TN d [] :: blk bm (.cells (eI.cells m).toArray eI.T (0, 0)) :: nodeR eI eK TN d 2 b ls :: L) :=
    ((((S6.perm p3).perm p4).perm (List.Perm.swap _ _ _)).perm (List.Perm.refl _))
  have S8 := nodeMk (eI := eI) (eK := eK) (TN := TN) _ hR S7
  exact ((Sat.unflat (Ls := [_, _]) (S8.perm (List.Perm.swap _ _ _))).perm (List.Perm.swap _ _ _))
/-- put: an inner node is parted. -/
theorem put_end {items : List α} {kids : List (Nat × List α)} {a ak a2 ak2 : Option Addr} {c ck c2 ck2 bm br : Nat} {m : α} {ls rs : List α} (okI : EncOk P eI) (okK : EncOk P eK) (h6 : 6 ≤ items.length) (hk : 6 ≤ kids.length)
    (hL : okN 2 d ⟨a, 2, ak, 3, items.take 2, kids.take 3⟩ ls) (hR : okN 2 d ⟨a2, c2, ak2, ck2, items.drop 3, kids.drop 3⟩ rs)
    (S : Sat W w (blk b (.cells #[.slice a 2 2, .slice ak 3 3] TN (0, 0)) :: row eI.T eI.sz a items.length c (flat eI items) :: row eK.T eK.sz ak (kids.map Prod.fst).length ck (flat eK (kids.map Prod.fst)) :: kidsR eI eK TN d kids :: blk bm (.cells (eI.cells m).toArray eI.T (0, 0)) :: blk br (.cells #[.slice a2 (items.drop 3).length c2, .slice ak2 ((kids.map Prod.fst).drop 3).length ck2] TN (0, 0)) :: row eI.T eI.sz a2 (items.drop 3).length c2 (flat eI (items.drop 3)) :: row eK.T eK.sz ak2 ((kids.map Prod.fst).drop 3).length ck2 (flat eK ((kids.map Prod.fst).drop 3)) :: L)) :
    Sat W w (nodeR eI eK TN d 2 b ls :: midR eI eK TN d (some (bm, m, br, rs)) :: L) := by
  have S1 := S.perm (List.Perm.swap _ _ _)
  have hcap := row_capL S1
  have S2 := S1.row_cut (n' := 2) (c' := 2) (by omega) (by omega) (by omega) (by omega)
  rw [← flat_take okI] at S2
  have S2' := S2.perm p2
  have hcap2 := row_capL S2'
  have hkl : (kids.map Prod.fst).length = kids.length := List.length_map _
  have S3 := S2'.row_cut (n' := 3) (c' := 3) (by omega) (by omega) (by omega) (by omega)
  rw [← flat_take okK] at S3
  have hlt : (items.take 2).length = 2 := by rw [List.length_take]; omega
  have hlk : ((kids.take 3).map Prod.fst).length = 3 := by rw [List.length_map, List.length_take]; omega
  have S4 := (S3.perm p3).kids_part 3
  -- kidsL, kidsR, rowK, rowI, box, ..
  have S5 : Sat W w (blk b (.cells #[.slice a (items.take 2).length 2, .slice ak ((kids.take 3).map Prod.fst).length 3] TN (0, 0)) :: row eI.T eI.sz a (items.take 2).length 2 (flat eI (items.take 2)) :: row eK.T eK.sz ak ((kids.take 3).map Prod.fst).length 3 (flat eK ((kids.take 3).map Prod.fst)) :: kidsR eI eK TN d (kids.take 3) :: kidsR eI eK TN d (kids.drop 3) :: blk bm (.cells (eI.cells m).toArray eI.T (0, 0)) :: blk br (.cells #[.slice a2 (items.drop 3).length c2, .slice ak2 ((kids.map Prod.fst).drop 3).length ck2] TN (0, 0)) :: row eI.T eI.sz a2 (items.drop 3).length c2 (flat eI (items.drop 3)) :: row eK.T eK.sz ak2 ((kids.map Prod.fst).drop 3).length ck2 (flat eK ((kids.map Prod.fst).drop 3)) :: L) := by
    rw [hlt, hlk, List.map_take]
    have h9 := S4.perm p2
    have h10 := h9.perm p3
    have h11 := h10.perm p4
    exact h11
  have S6 := nodeMk (eI := eI) (eK := eK) (TN := TN) _ hL S5
  have hmd : (kids.map Prod.fst).drop 3 = (kids.drop 3).map Prod.fst := (List.map_drop ..).symm
  rw [hmd] at S6
  have S7 : Sat W w (blk br (.cells #[.slice a2 (items.drop 3).length c2, .slice ak2 ((kids.drop 3).map Prod.fst).length ck2] TN (0, 0)) :: row eI.T eI.sz a2 (items.drop 3).length c2 (flat eI (items.drop 3)) :: row eK.T eK.sz ak2 ((kids.drop 3).map Prod.fst).length ck2 (flat eK ((kids.drop 3).map Prod.fst)) :: kidsR eI eK TN d (kids.drop 3) :: nodeR eI eK TN d 2 b ls :: blk bm (.cells (eI.cells m).toArray eI.T (0, 0)) :: L) :=
    (((S6.perm p1).perm p5).perm p5).perm p5 |>.perm (List.Perm.refl _)
  have S8 := nodeMk (eI := eI) (eK := eK) (TN := TN) _ hR S7
  have S9 := S8.perm p2
  exact (Sat.unflat (Ls := [_, _]) S9).perm (List.Perm.swap _ _ _)
end
end
end Go.Proofs.Ytnfbjidpiglabaa
