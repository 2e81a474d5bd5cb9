/- Texts of the proof: Sep, Step, Ops, Mem, Map, More, Slice, Val, Draw, Held, Open, Range, MapS, Many, Ty, Treep, Sort, Ordp, Shelf, IntsC, Homes, Filp, Fil, Fili. -/
import Derived.WalkKit
import Derived.WalkSpells
import Derived.WalkLawsBesides
import Derived.TacticsIn
import Derived.RangeFuncRecord
import Derived.RangeFuncCalls
import Derived.Maps.AppendAt
import Derived.Deep.QuietTactic
import Derived.OrdersHeld
import Derived.OrdersIn
import Derived.ProofKit
import Derived.OpenShut
import Derived.ShutString
import Derived.ChangeOld
import Derived.Carry
import Derived.Deep.Slices
import Derived.RangeFuncNested
import Derived.Laws.IdiomStrings
import Derived.Test.YtjoigmbapnjhhaaRows
import Derived.KernelRfl
import Derived.Sort.Grow
import Derived.Sort.EncStr
import Derived.Sort.Walk0
import Derived.Lib.SlicesCompact
import Derived.Lib.RowBridge
import Derived.Shelf.Sort.Plain
import Derived.Shelf.Slices.CompactS
import Derived.Shelf.Slices.CompactI
import Derived.Shelf.Slices.In.SortNone
import Derived.Test.YtjoigmbapnjhhaaProg
import Derived.Lib.AppendZerosOnto
import Derived.Lib.Overlaps
import Derived.Laws.CopyRow
import Derived.Laws.Externs
namespace Go.Proofs.Ytjoigmbapnjhhaa
section
set_option linter.unusedVariables false
set_option linter.unusedSimpArgs false
open Go.RowKit
abbrev PH := Nat → Option Obj
abbrev Res := PH → Prop
def PH.dj (a b : PH) : Prop := ∀ k, a k = none ∨ b k = none
def PH.un (a b : PH) : PH := fun k => (a k).or (b k)
def emp : Res := fun h => ∀ k, h k = none
def star (A B : Res) : Res := fun h => ∃ a b : PH, PH.dj a b ∧ h = PH.un a b ∧ A a ∧ B b
def stars : List Res → Res
  | [] => emp
  | A :: L => star A (stars L)
def blk (k : Nat) (o : Obj) : Res := fun h => h = fun j => if j = k then some o else none
def pur (p : Prop) : Res := fun h => p ∧ emp h
def sex {α : Type} (A : α → Res) : Res := fun h => ∃ x, A x h
theorem PH.dj_symm {a b : PH} (h : PH.dj a b) : PH.dj b a := fun k => (h k).symm
theorem PH.un_comm {a b : PH} (h : PH.dj a b) : PH.un a b = PH.un b a := by
  funext k
  rcases h k with h | h <;> simp [PH.un, h]
theorem PH.un_assoc (a b c : PH) : PH.un (PH.un a b) c = PH.un a (PH.un b c) := by
  funext k
  simp [PH.un, Option.or_assoc]
theorem PH.dj_un {a b c : PH} (h : PH.dj a (PH.un b c)) : PH.dj a b ∧ PH.dj a c := by
  refine ⟨fun k => ?_, fun k => ?_⟩ <;>
  · rcases h k with h | h
    · exact .inl h
    · simp only [PH.un, Option.or_eq_none_iff] at h
      first | exact .inr h.1 | exact .inr h.2
theorem PH.un_dj {a b c : PH} (h1 : PH.dj a b) (h2 : PH.dj a c) : PH.dj a (PH.un b c) := fun k => by
  rcases h1 k with h | h
  · exact .inl h
  · rcases h2 k with h' | h'
    · exact .inl h'
    · exact .inr (by simp [PH.un, h, h'])
theorem star_swap {A B : Res} {h : PH} (hs : star A B h) : star B A h := by
  obtain ⟨a, b, hd, he, ha, hb⟩ := hs
  exact ⟨b, a, PH.dj_symm hd, he.trans (PH.un_comm hd), hb, ha⟩
theorem star_assoc {A B C : Res} {h : PH} : star (star A B) C h ↔ star A (star B C) h := by
  constructor
  · rintro ⟨ab, c, hd, rfl, ⟨a, b, hd2, rfl, ha, hb⟩, hc⟩
    have h3 := PH.dj_un (PH.dj_symm hd)
    exact ⟨a, PH.un b c, PH.un_dj hd2 (PH.dj_symm h3.1), PH.un_assoc _ _ _, ha, b, c, PH.dj_symm h3.2, rfl, hb, hc⟩
  · rintro ⟨a, bc, hd, rfl, ha, b, c, hd2, rfl, hb, hc⟩
    have h3 := PH.dj_un hd
    exact ⟨PH.un a b, c, PH.dj_symm (PH.un_dj (PH.dj_symm h3.2) (PH.dj_symm hd2)), (PH.un_assoc _ _ _).symm, ⟨a, b, h3.1, rfl, ha, hb⟩, hc⟩
theorem star_mono {A B A' B' : Res} (h1 : ∀ h, A h → A' h) (h2 : ∀ h, B h → B' h) {h : PH} (hs : star A B h) : star A' B' h := by
  obtain ⟨a, b, hd, he, ha, hb⟩ := hs
  exact ⟨a, b, hd, he, h1 _ ha, h2 _ hb⟩
theorem emp_un {a e : PH} (he : emp e) : PH.un e a = a := by funext k; simp [PH.un, he k]
theorem stars_swap {A B : Res} {L : List Res} {h : PH} (hs : stars (A :: B :: L) h) : stars (B :: A :: L) h :=
  star_assoc.1 (star_mono (fun _ => star_swap) (fun _ x => x) (star_assoc.2 hs))
theorem stars_perm {L L' : List Res} (hp : L.Perm L') : ∀ {h : PH}, stars L h → stars L' h := by
  induction hp with
  | nil => exact fun h => h
  | cons x _ ih => exact fun h => star_mono (fun _ x => x) (fun _ => ih) h
  | swap x y l => exact fun h => stars_swap h
  | trans _ _ ih1 ih2 => exact fun h => ih2 (ih1 h)
theorem stars_append {L L' : List Res} {h : PH} : stars (L ++ L') h ↔ star (stars L) (stars L') h := by
  induction L generalizing h with
  | nil =>
    constructor
    · intro hs
      exact ⟨fun _ => none, h, fun _ => .inl rfl, by funext k; simp [PH.un], fun _ => rfl, hs⟩
    · rintro ⟨a, b, _, rfl, ha, hb⟩
      rw [emp_un ha]
      exact hb
  | cons A L ih =>
    constructor
    · intro hs
      exact star_assoc.2 (star_mono (fun _ x => x) (fun _ x => ih.1 x) hs)
    · intro hs
      exact star_mono (fun _ x => x) (fun _ x => ih.2 x) (star_assoc.1 hs)
theorem ask_drawn {α : Type} : ∀ (q : Ask α) (w : World), w.drawn ≤ (w.ask q).2.drawn
  | .done a, w => by rw [World.ask]; exact Nat.le_refl _
  | .ask what range k, w => by
    rw [World.ask]
    split
    · exact ask_drawn _ w
    · exact Nat.le_trans (Nat.le_succ _) (ask_drawn _ { w with drawn := w.drawn + 1 })
theorem sys_drawn (w : World) (c : Sys) : w.drawn ≤ (w.sys c).2.drawn := by
  unfold World.sys
  have h := ask_drawn (Kernel.perform c w.os) w
  split
  · exact Nat.le_refl _
  · rename_i r os w1 hq e
    rw [e] at h; exact h
theorem farStore_drawn {P : Program} {w w' : World} {a : Addr} {v : Value} {b : Bool} {l : List Addr} (h : w.farStore P a v b = .ok (w', l)) : w'.drawn = w.drawn := by
  unfold World.farStore at h
  split at h
  · split at h
    · rename_i r hr
      cases h
      unfold World.viewStore at hr
      simp only [bind, Except.bind, pure, Except.pure, throw, throwThe, MonadExceptOf.throw] at hr
      repeat' (split at hr)
      all_goals first | (cases hr; done) | (cases hr; rfl)
    · cases h
  · cases h
theorem run_drawn {P : Program} {α : Type} : ∀ (s : Sem α) (w : World) {v : α} {w' : World}, s.run P w = .ok v w' → w.drawn ≤ w'.drawn := by
  intro s
  induction s with
  | pure a => intro w v w' h; simp only [Sem.run, Result.ok.injEq] at h; rw [h.2]; exact Nat.le_refl _
  | load m a k ih =>
    intro w v w' h
    simp only [Sem.run] at h
    split at h
    · exact ih _ _ h
    · split at h
      · exact ih _ _ h
      · cases h
  | store m a x k ih =>
    intro w v w' h
    cases x <;> simp only [Sem.run] at h <;> first
      | (cases h; done)
      | (split at h
         · split at h
           · cases h
           · exact ih (w.setCell _ _) h
         · split at h
           · rename_i hf
             have h1 := farStore_drawn hf
             have h2 := ih _ h
             omega
           · cases h)
  | new o k ih => intro w v w' h; simp only [Sem.run] at h; exact ih _ { w with heap := w.heap.push o } h
  | shape r k ih => intro w v w' h; simp only [Sem.run] at h; exact ih _ _ h
  | freeze a n k ih =>
    intro w v w' h; simp only [Sem.run] at h
    have h1 := ih _ h
    have h2 : (w.freeze a n).drawn = w.drawn := by unfold World.freeze; split <;> rfl
    omega
  | frozen a k ih => intro w v w' h; simp only [Sem.run] at h; exact ih _ _ h
  | getObj r k ih =>
    intro w v w' h
    simp only [Sem.run] at h
    split at h
    · cases h
    · exact ih _ _ h
    · cases h
  | setObj r o k ih =>
    intro w v w' h
    simp only [Sem.run] at h
    split at h
    · cases h
    · exact ih { w with heap := w.heap.setIfInBounds r o } h
    · cases h
  | choose q k ih =>
    intro w v w' h
    simp only [Sem.run] at h
    split at h
    · exact ih _ _ h
    · exact Nat.le_trans (Nat.le_succ _) (ih _ { w with drawn := w.drawn + 1 } h)
  | sys c k ih => intro w v w' h; simp only [Sem.run] at h; exact Nat.le_trans (sys_drawn w c) (ih _ _ h)
  | program k ih => intro w v w' h; simp only [Sem.run] at h; exact ih _ _ h
  | mark m k ih => intro w v w' h; simp only [Sem.run] at h; exact ih _ h
  | halt x => intro w v w' h; simp only [Sem.run] at h; cases h
/-- In w, beside all of the world W as9 it was, the resources L hold: in blocks that are no blocks of W, no two in one. -/
structure Sat (W w : World) (L : List Res) : Prop where
  below : Below W.heap.size W w
  dr : W.drawn ≤ w.drawn
  own : ∃ h, stars L h ∧ ∀ k o, h k = some o → W.heap.size ≤ k ∧ w.heap[k]? = some o
section
variable {W w w' : World} {L L' : List Res} {A B : Res}
theorem Sat.start (W : World) : Sat W W [] := ⟨Below.refl _ _, Nat.le_refl _, fun _ => none, fun _ => rfl, fun _ _ h => by cases h⟩
theorem Sat.conv (h : Sat W w L) (hi : ∀ h, stars L h → stars L' h) : Sat W w L' :=
  ⟨h.below, h.dr, let ⟨x, hx, hy⟩ := h.own; ⟨x, hi _ hx, hy⟩⟩
theorem Sat.perm (h : Sat W w L) (hp : L.Perm L') : Sat W w L' := h.conv fun _ => stars_perm hp
theorem Sat.imp (h : Sat W w (A :: L)) (hi : ∀ h, A h → B h) : Sat W w (B :: L) := h.conv fun _ => star_mono hi fun _ x => x
theorem Sat.tail (h : Sat W w (A :: L)) : Sat W w L := by
  obtain ⟨x, ⟨a, b, hd, rfl, ha, hb⟩, hy⟩ := h.own
  refine ⟨h.below, h.dr, b, hb, fun k o hk => hy k o ?_⟩
  rcases hd k with h' | h'
  · simp [PH.un, h', hk]
  · rw [h'] at hk; cases hk
theorem Sat.unpack (h : Sat W w (star A B :: L)) : Sat W w (A :: B :: L) := h.conv fun _ => star_assoc.1
theorem Sat.pack (h : Sat W w (A :: B :: L)) : Sat W w (star A B :: L) := h.conv fun _ => star_assoc.2
theorem Sat.ex {α : Type} {A : α → Res} (h : Sat W w (sex A :: L)) : ∃ x, Sat W w (A x :: L) := by
  obtain ⟨y, ⟨a, b, hd, he, ⟨x, ha⟩, hb⟩, hy⟩ := h.own
  exact ⟨x, h.below, h.dr, y, ⟨a, b, hd, he, ha, hb⟩, hy⟩
theorem Sat.unex {α : Type} {A : α → Res} (x : α) (h : Sat W w (A x :: L)) : Sat W w (sex A :: L) := h.imp fun _ ha => ⟨x, ha⟩
theorem Sat.pur {p : Prop} (h : Sat W w (pur p :: L)) : p ∧ Sat W w L := by
  obtain ⟨y, ⟨a, b, hd, he, ⟨hp, _⟩, hb⟩, hy⟩ := h.own
  exact ⟨hp, h.tail⟩
theorem Sat.unpur {p : Prop} (hp : p) (h : Sat W w L) : Sat W w (Go.Proofs.Ytjoigmbapnjhhaa.pur p :: L) :=
  h.conv fun x hx => ⟨fun _ => none, x, fun _ => .inl rfl, by funext k; simp [PH.un], ⟨hp, fun _ => rfl⟩, hx⟩
theorem Sat.emp_ (h : Sat W w L) : Sat W w (emp :: L) :=
  h.conv fun x hx => ⟨fun _ => none, x, fun _ => .inl rfl, by funext k; simp [PH.un], fun _ => rfl, hx⟩
theorem Sat.read {k : Nat} {o : Obj} (h : Sat W w (blk k o :: L)) : W.heap.size ≤ k ∧ w.heap[k]? = some o := by
  obtain ⟨y, ⟨a, b, hd, rfl, ha, hb⟩, hy⟩ := h.own
  refine hy k o ?_
  rw [ha]
  simp [PH.un]
theorem Sat.cell {k : Nat} {cs : Array Value} {T : TypeId} {m : Nat × Nat} (h : Sat W w (blk k (.cells cs T m) :: L)) (j : Nat) : w.cell? ⟨k, j, none⟩ = cs[j]? := by
  simp [World.cell?, h.read.2]
theorem Sat.frozen {k : Nat} {cs : Array Value} {T : TypeId} (h : Sat W w (blk k (.cells cs T (0, 0)) :: L)) (j : Nat) : w.frozen? ⟨k, j, none⟩ = false := by
  simp [World.frozen?, h.read.2]
theorem Sat.drew (h : Sat W w L) : Sat W w.drew L := ⟨h.below.drew, Nat.le_succ_of_le h.dr, h.own⟩
/-- A new block. -/
theorem Sat.alloc (h : Sat W w L) (o : Obj) : Sat W (w.alloc o) (blk w.heap.size o :: L) := by
  obtain ⟨x, hx, hy⟩ := h.own
  refine ⟨h.below.alloc h.below.size o, h.dr, PH.un (fun j => if j = w.heap.size then some o else none) x, ⟨_, _, fun k => ?_, rfl, rfl, hx⟩, fun k o' hk => ?_⟩
  · by_cases e : k = w.heap.size
    · right
      cases hxk : x k with
      | none => rfl
      | some o' =>
        have := (hy k o' hxk).2
        rw [e, Array.getElem?_eq_none (Nat.le_refl _)] at this
        cases this
    · left; simp [e]
  · by_cases e : k = w.heap.size
    · subst e
      simp only [PH.un, if_true, Option.some_or, Option.some.injEq] at hk
      subst hk
      exact ⟨h.below.size, heap_alloc_new w o⟩
    · simp only [PH.un, e, if_false, Option.none_or] at hk
      obtain ⟨h1, h2⟩ := hy k o' hk
      exact ⟨h1, (Below.heap_alloc w o k (Array.getElem?_eq_some_iff.1 h2).1).trans h2⟩
/-- One block that is owned has turned, nothing else. -/
theorem Sat.turn {k : Nat} {o o' : Obj} (h : Sat W w (blk k o :: L)) (hos : w'.os = w.os) (ht : w'.tape = w.tape) (hout : w'.output = w.output) (hs : w'.heap.size = w.heap.size)
    (hk : w'.heap[k]? = some o') (hj : ∀ j, j ≠ k → w'.heap[j]? = w.heap[j]?) (hdr : w.drawn ≤ w'.drawn := by exact Nat.le_refl _) : Sat W w' (blk k o' :: L) := by
  have hr := h.read
  obtain ⟨y, ⟨a, b, hd, rfl, ha, hb⟩, hy⟩ := h.own
  refine ⟨h.below.trans ⟨hos, ht, hout, by omega, fun j hjk => hj j (by omega)⟩, Nat.le_trans h.dr hdr, PH.un (fun j => if j = k then some o' else none) b, ⟨_, _, fun j => ?_, rfl, rfl, hb⟩, fun j p hp => ?_⟩
  · rcases hd j with h' | h'
    · left
      rw [ha] at h'
      by_cases e : j = k
      · simp [e] at h'
      · simp [e]
    · exact .inr h'
  · by_cases e : j = k
    · subst e
      simp only [PH.un, if_true, Option.some_or, Option.some.injEq] at hp
      subst hp
      exact ⟨hr.1, hk⟩
    · simp only [PH.un, e, if_false, Option.none_or] at hp
      rw [hj j e]
      exact hy j p (by rw [ha]; simp [PH.un, e, hp])
theorem heap_setCell_cells {w : World} {k : Nat} {cs : Array Value} {T : TypeId} {m : Nat × Nat} (h : w.heap[k]? = some (.cells cs T m)) (j : Nat) (v : Value) :
    (w.setCell ⟨k, j, none⟩ v).heap[k]? = some (.cells (cs.setIfInBounds j v) T m) := by
  simp [World.setCell, Array.getElem?_modify, h]
theorem Sat.setCell {k : Nat} {cs : Array Value} {T : TypeId} {m : Nat × Nat} (h : Sat W w (blk k (.cells cs T m) :: L)) (j : Nat) (v : Value) :
    Sat W (w.setCell ⟨k, j, none⟩ v) (blk k (.cells (cs.setIfInBounds j v) T m) :: L) :=
  h.turn rfl rfl rfl (by simp [World.setCell]) (heap_setCell_cells h.read.2 j v) (fun i hi => Below.heap_setCell _ _ _ _ hi)
/-- The resources that are written are turned into others in new blocks or the same ones: what a law of the kit says of one row ('grownBy'). -/
theorem Sat.grown {g : Nat} {o o' : Obj} {g' : Nat} (h : Sat W w (blk g o :: L)) (hg : w.grownBy w' (some g)) (hdr : w.drawn ≤ w'.drawn) (ho : w'.heap[g']? = some o') (hw : g' = g ∨ w.heap.size ≤ g') : Sat W w' (blk g' o' :: L) := by
  have hr := h.read
  obtain ⟨y, ⟨a, b, hd, rfl, ha, hb⟩, hy⟩ := h.own
  have hgl : g < w.heap.size := (Array.getElem?_eq_some_iff.1 hr.2).1
  have hnb : ∀ k o, b k = some o → k ≠ g ∧ k < w.heap.size ∧ w.heap[k]? = some o ∧ W.heap.size ≤ k := fun k p hk => by
    have h1 := hy k p (by
      rcases hd k with h' | h'
      · simp [PH.un, h', hk]
      · rw [h'] at hk; cases hk)
    refine ⟨fun e => ?_, (Array.getElem?_eq_some_iff.1 h1.2).1, h1.2, h1.1⟩
    subst e
    rcases hd k with h' | h'
    · rw [ha] at h'; simp at h'
    · rw [h'] at hk; cases hk
  refine ⟨h.below.grown hg h.below.size (fun k hk => by cases hk; exact hr.1), Nat.le_trans h.dr hdr, PH.un (fun j => if j = g' then some o' else none) b, ⟨_, _, fun j => ?_, rfl, rfl, hb⟩, fun j p hp => ?_⟩
  · by_cases e : j = g'
    · right
      cases hbj : b j with
      | none => rfl
      | some p =>
        obtain ⟨h1, h2, _, _⟩ := hnb j p hbj
        rcases hw with rfl | hw
        · exact absurd e h1
        · omega
    · left; simp [e]
  · by_cases e : j = g'
    · subst e
      simp only [PH.un, if_true, Option.some_or, Option.some.injEq] at hp
      subst hp
      refine ⟨?_, ho⟩
      rcases hw with rfl | hw
      · exact hr.1
      · have := h.below.size; omega
    · simp only [PH.un, e, if_false, Option.none_or] at hp
      obtain ⟨h1, h2, h3, h4⟩ := hnb j p hp
      exact ⟨h4, (hg.block j h2 (by simpa using h1)).trans h3⟩
theorem Sat.grown0 {o' : Obj} {g' : Nat} (h : Sat W w L) (hg : w.grownBy w' none) (hdr : w.drawn ≤ w'.drawn) (ho : w'.heap[g']? = some o') (hw : w.heap.size ≤ g') : Sat W w' (blk g' o' :: L) := by
  obtain ⟨b, hb, hy⟩ := h.own
  refine ⟨h.below.grown hg h.below.size (fun k hk => by cases hk), Nat.le_trans h.dr hdr, PH.un (fun j => if j = g' then some o' else none) b, ⟨_, _, fun j => ?_, rfl, rfl, hb⟩, fun j p hp => ?_⟩
  · by_cases e : j = g'
    · right
      cases hbj : b j with
      | none => rfl
      | some p =>
        have := (Array.getElem?_eq_some_iff.1 (hy j p hbj).2).1
        omega
    · left; simp [e]
  · by_cases e : j = g'
    · subst e
      simp only [PH.un, if_true, Option.some_or, Option.some.injEq] at hp
      subst hp
      exact ⟨Nat.le_trans h.below.size hw, ho⟩
    · simp only [PH.un, e, if_false, Option.none_or] at hp
      obtain ⟨h1, h2⟩ := hy j p hp
      exact ⟨h1, (hg.block j (Array.getElem?_eq_some_iff.1 h2).1 (by simp)).trans h2⟩
/-- Nothing that was there has turned; there may be new blocks. -/
theorem Sat.more (h : Sat W w L) (hb : Below w.heap.size w w') (hdr : w.drawn ≤ w'.drawn := by exact Nat.le_refl _) : Sat W w' L := by
  obtain ⟨b, hb', hy⟩ := h.own
  exact ⟨h.below.trans (hb.mono h.below.size), Nat.le_trans h.dr hdr, b, hb', fun k o hk => ⟨(hy k o hk).1, (hb.block k (Array.getElem?_eq_some_iff.1 (hy k o hk).2).1).trans (hy k o hk).2⟩⟩
end
end
section
set_option linter.unusedVariables false
set_option linter.unusedSimpArgs false
open Go.RowKit
abbrev Fr := List (Nat × Value)
def lk : Fr → Nat → Option Value
  | [], _ => none
  | (d, v) :: l, t => bif Nat.beq d t then some v else lk l t
/-- Of a frame: how many slots, in which round of which loop, which calls are deferred. -/
structure FN where
  n : Nat
  ro : Option Nat := none
  df : List Deferred := []
instance : Coe FN Nat := ⟨FN.n⟩
def fen (ro : Option Nat) : Fence := { fn := fun _ => True, depth := none, alive := false, round := ro }
structure Know (a : Act) (N : FN) (l : Fr) : Prop where
  size : a.tmps.size = N.n
  dfr : a.defers = N.df
  val : ∀ t v, lk l t = some v → a.tmps.getD t undef = v
def opv (l : Fr) : Operand → Option Value
  | .tmp t => lk l t
  | .const v => some v
  | .global g => some (.pointer (some ⟨g, 0, none⟩))
  | .func f => some (.func (.func f) #[] #[])
section
variable {P : Program} {N : FN} {l : Fr} {a : Act} {W w : World} {L : List Res}
theorem Know.eval (K : Know a N l) {x : Operand} {v : Value} (h : opv l x = some v) : a.eval x = v := by
  cases x with
  | tmp t => exact K.val t v h
  | const u => simpa [opv, Act.eval] using h
  | global g => simpa [opv, Act.eval] using h
  | func f => simpa [opv, Act.eval] using h
theorem lk_cons (d t : Nat) (v : Value) (l : Fr) : lk ((d, v) :: l) t = if d = t then some v else lk l t := by
  by_cases h : d = t
  · simp [lk, h]
  · have : Nat.beq d t = false := by
      cases hb : Nat.beq d t with
      | false => rfl
      | true => exact absurd (Nat.eq_of_beq_eq_true hb) h
    simp [lk, this, h]
theorem Know.put (K : Know a N l) {d : Nat} (hd : Nat.ble (d + 1) N = true) (v : Value) : Know (a.put (some d) v) N ((d, v) :: l) := by
  have hd' : d < a.tmps.size := by rw [K.size]; exact Nat.le_of_ble_eq_true hd
  refine ⟨by simp [Act.put, K.size], K.dfr, fun t u ht => ?_⟩
  rw [lk_cons] at ht
  by_cases e : d = t
  · subst e
    simp only [if_true, Option.some.injEq] at ht
    subst ht
    simp [Act.put, hd']
  · rw [if_neg e] at ht
    rw [← K.val t u ht]
    simp only [Act.put, Array.getD_eq_getD_getElem?]
    rw [Array.getElem?_setIfInBounds_ne e]
theorem Know.none (K : Know a N l) (v : Value) : Know (a.put none v) N l := K
/-- Less is known. -/
theorem Know.sub {l' : Fr} (K : Know a N l) (h : ∀ t v, lk l' t = some v → lk l t = some v) : Know a N l' := ⟨K.size, K.dfr, fun t v ht => K.val t v (h t v ht)⟩
end
def WL (P : Program) (ops : Array Oper) (Q : Exit → Act → World → Prop) (rest : List Oper) (N : FN) (l : Fr) (W : World) (L : List Res) : Prop :=
  ∀ a w, Know a N l → Sat W w L → wpListIn (fen N.ro) 0 P ops Q rest a w
def WC (P : Program) (c : Code) (Q : Exit → Act → World → Prop) (N : FN) (l : Fr) (W : World) (L : List Res) : Prop :=
  ∀ a w, Know a N l → Sat W w L → c.wpIn (fen N.ro) 0 P Q a w
def WQ (Q : Exit → Act → World → Prop) (e : Exit) (N : FN) (l : Fr) (W : World) (L : List Res) : Prop :=
  ∀ a w, Know a N l → Sat W w L → Q e a w
/-- A call: what it answers, what it leaves. -/
def CS (P : Program) (f : FuncId) (args : Array Value) (W : World) (L : List Res) (post : Value → List Res → Prop) : Prop :=
  ∀ w, Sat W w L → Calls P f args w fun e w' => ∃ v L', e = .returned v ∧ post v L' ∧ Sat W w' L'
section
variable {P : Program} {N : FN} {l : Fr} {W : World} {L L' : List Res} {Q : Exit → Act → World → Prop} {ops : Array Oper} {rest : List Oper}
theorem c_seq {x y : Code} (h : WC P x (Exit.then (y.wpIn (fen N.ro) 0 P Q) Q) N l W L) : WC P (.seq x y) Q N l W L := fun a w K S => wpIn_seq (h a w K S)
theorem c_skip (h : WQ Q .normal N l W L) : WC P .skip Q N l W L := fun a w K S => wpIn_skip (h a w K S)
theorem c_ret (h : WQ Q .ret N l W L) : WC P .ret Q N l W L := fun a w K S => wpIn_ret (h a w K S)
theorem c_exit {id : Nat} (h : WQ Q (.exit id) N l W L) : WC P (.exit id) Q N l W L := fun a w K S => wpIn_exit (h a w K S)
theorem c_block {id : Nat} {c : Code} (h : WC P c (Exit.inBlock id Q) N l W L) : WC P (.block id c) Q N l W L := fun a w K S => wpIn_block (h a w K S)
theorem c_true {x : Operand} {t e : Code} (hx : opv l x = some (.bool true)) (h : WC P t Q N l W L) : WC P (.cond x t e) Q N l W L := fun a w K S => wpIn_cond_true (K.eval hx) (h a w K S)
theorem c_false {x : Operand} {t e : Code} (hx : opv l x = some (.bool false)) (h : WC P e Q N l W L) : WC P (.cond x t e) Q N l W L := fun a w K S => wpIn_cond_false (K.eval hx) (h a w K S)
theorem c_cond {x : Operand} {t e : Code} {b : Bool} (hx : opv l x = some (.bool b)) (ht : b = true → WC P t Q N l W L) (he : b = false → WC P e Q N l W L) : WC P (.cond x t e) Q N l W L :=
  fun a w K S => wpIn_cond_split (K.eval hx) (fun hb => ht hb a w K S) (fun hb => he hb a w K S)
theorem c_region {id : Nat} {ops : List Oper} (h : WL P ops.toArray Q ops N l W L) : WC P (.region id ops.toArray false) Q N l W L := fun a w K S => wpIn_region_lit (h a w K S)
theorem l_nil (h : WQ Q .normal N l W L) : WL P ops Q [] N l W L := fun a w K S => wpListIn_nil (h a w K S)
/-- The exits' ways. -/
theorem q_then {c : Code} (h : WC P c Q N l W L) : WQ (Exit.then (c.wpIn (fen N.ro) 0 P Q) Q) .normal N l W L := fun a w K S => h a w K S
theorem q_pass_exit {n : Act → World → Prop} {id : Nat} (h : WQ Q (.exit id) N l W L) : WQ (Exit.then n Q) (.exit id) N l W L := fun a w K S => h a w K S
theorem q_pass_ret {n : Act → World → Prop} (h : WQ Q .ret N l W L) : WQ (Exit.then n Q) .ret N l W L := fun a w K S => h a w K S
theorem q_block {id : Nat} (h : WQ Q .normal N l W L) : WQ (Exit.inBlock id Q) .normal N l W L := fun a w K S => h a w K S
theorem q_hit {id : Nat} (h : WQ Q .normal N l W L) : WQ (Exit.inBlock id Q) (.exit id) N l W L := fun a w K S => by
  simp only [Exit.inBlock, if_true]; exact h a w K S
theorem q_block_ret {id : Nat} (h : WQ Q .ret N l W L) : WQ (Exit.inBlock id Q) .ret N l W L := fun a w K S => h a w K S
theorem l_conv (hc : ∀ w, Sat W w L → Sat W w L') (h : WL P ops Q rest N l W L') : WL P ops Q rest N l W L := fun a w K S => h a w K (hc w S)
theorem c_conv {c : Code} (hc : ∀ w, Sat W w L → Sat W w L') (h : WC P c Q N l W L') : WC P c Q N l W L := fun a w K S => h a w K (hc w S)
theorem c_fact {c : Code} {p : Prop} (hc : ∀ w, Sat W w L → p) (h : p → WC P c Q N l W L) : WC P c Q N l W L := fun a w K S => h (hc w S) a w K S
theorem q_conv {e : Exit} (hc : ∀ w, Sat W w L → Sat W w L') (h : WQ Q e N l W L') : WQ Q e N l W L := fun a w K S => h a w K (hc w S)
/-- A slot's value is spelt otherwise. -/
theorem l_eq {t : Nat} {v v' : Value} (hx : lk l t = some v) (e : v = v') (h : WL P ops Q rest N ((t, v') :: l) W L) : WL P ops Q rest N l W L := fun a w K S =>
  h a w (K.sub (a := a) (l' := (t, v') :: l) (fun s u hs => by
    rw [lk_cons] at hs
    split at hs
    · rename_i hts; subst hts; subst e; rw [hx]; exact hs
    · exact hs)) S
/-- Only what is listed is kept. -/
def subk : Fr → Fr → Prop
  | [], _ => True
  | (t, v) :: l', l => lk l t = some v ∧ subk l' l
theorem subk_lk : ∀ {l' l : Fr}, subk l' l → ∀ t v, lk l' t = some v → lk l t = some v
  | [], _, _, t, v, h => by cases h
  | (s, u) :: l', l, h, t, v, ht => by
    rw [lk_cons] at ht
    split at ht
    · rename_i e; subst e; rw [h.1]; exact ht
    · exact subk_lk h.2 t v ht
theorem c_loop {c : Code} {α : Type} (l' : α → Fr) (L' : α → List Res) (p : α → Prop) (μ : α → Nat) (x0 : α) (h0 : p x0) (hl : subk (l' x0) l) (hL : ∀ w, Sat W w L → Sat W w (L' x0))
    (round : ∀ x, p x → WC P c (Exit.then (fun a w => ∃ y, p y ∧ μ y < μ x ∧ Know a N (l' y) ∧ Sat W w (L' y)) Q) N (l' x) W (L' x)) : WC P (.loop c) Q N l W L := fun a w K S => by
  intro b k cs hro hb hr
  have key : ∀ n x a w, μ x = n → p x → Know a N (l' x) → Sat W w (L' x) →
      ∃ e a' w', Q e a' w' ∧ ArrivesIn (Machine.fenced P (fen N.ro)) P (lone (b.atR a (.code c :: .inLoop c :: k)) cs w) b k cs e a' w' := by
    intro n
    induction n using Nat.strongRecOn with
    | _ n ih =>
      intro x a w hn hp K S
      obtain ⟨e, a₁, w₁, hq, harr⟩ := round x hp a w K S b (.inLoop c :: k) cs hro hb hr
      cases e with
      | normal =>
        obtain ⟨y, hy, hlt, Ky, Sy⟩ := hq
        obtain ⟨e₂, a₂, w₂, hq₂, harr₂⟩ := ih (μ y) (hn ▸ hlt) y a₁ w₁ rfl hy Ky Sy
        exact ⟨e₂, a₂, w₂, hq₂, .of_steps (StepsIn.trans harr (.one (fenced_calm hb hr rfl) stepR_inLoop)) harr₂⟩
      | exit id => exact ⟨_, a₁, w₁, hq, .pass (x := .inLoop c) rfl (fun _ _ => .inl (by simp)) harr⟩
      | goto l => exact ⟨_, a₁, w₁, hq, .pass (x := .inLoop c) rfl (fun _ _ => .inl (by simp)) harr⟩
      | ret => exact ⟨_, a₁, w₁, hq, .pass (x := .inLoop c) rfl (fun _ _ => .inl (by simp)) harr⟩
      | panic ch => exact ⟨_, a₁, w₁, hq, .pass (x := .inLoop c) rfl (fun _ _ => .inl (by simp)) harr⟩
      | outgrown => exact ⟨_, a₁, w₁, hq, .pass (x := .inLoop c) rfl (fun _ _ => .inl (by simp)) harr⟩
  obtain ⟨e, a', w', hq, harr⟩ := key _ x0 a w rfl h0 (K.sub (subk_lk hl)) (hL w S)
  exact ⟨e, a', w', hq, .of_steps (.one (fenced_calm hb hr rfl) stepR_loop) harr⟩
theorem q_round {α : Type} {l' : α → Fr} {L' : α → List Res} {p : α → Prop} {μ : α → Nat} {n : Nat} (y : α) (hp : p y) (hm : μ y < n) (hl : subk (l' y) l) (hL : ∀ w, Sat W w L → Sat W w (L' y)) :
    WQ (Exit.then (fun a w => ∃ y, p y ∧ μ y < n ∧ Know a N (l' y) ∧ Sat W w (L' y)) Q) .normal N l W L := fun _ w K S => ⟨y, hp, hm, K.sub (subk_lk hl), hL w S⟩
abbrev postC (P : Program) (fn : Func) (W : World) (post : Value → List Res → Prop) : Exit → Act → World → Prop :=
  bodyPostM Fence.wide 0 P fn fun e w' => ∃ v L', e = .returned v ∧ post v L' ∧ Sat W w' L'
theorem f_enter {f : FuncId} {fn : Func} {c : Code} {args : Array Value} {post : Value → List Res → Prop} (hf : P.funcs[f]? = some fn) (hb : fn.body = some c) (l0 : Fr)
    (hl : ∀ a : Act, a.tmps = args ++ Array.replicate (fn.ntmps - args.size) undef → a.defers = [] → Know a { n := fn.ntmps } l0)
    (h : WC P c (postC P fn W post) { n := fn.ntmps } l0 W L) : CS P f args W L post := fun w S =>
  callsIn_wide.1 (callsIn_of_wp_marks hf hb trivial (h _ w (hl _ rfl rfl) S))
theorem f_ret {fn : Func} {post : Value → List Res → Prop} {v : Value} (hr : ∀ a w, Know a N l → Sat W w L → (results fn a.tmps).run P w = .ok v w) (hp : post v L') (hL : ∀ w, Sat W w L → Sat W w L') (hdf : N.df = [] := by rfl) :
    WQ (postC P fn W post) .ret N l W L := fun a w K S => by
  show LeavesInM Fence.wide 0 P fn a.tmps _ a.defers .returning w
  rw [K.dfr, hdf]
  exact ⟨v, hr a w K S, v, L', rfl, hp, hL w S⟩
theorem f_end {fn : Func} {post : Value → List Res → Prop} {v : Value} (hr : ∀ a w, Know a N l → Sat W w L → (results fn a.tmps).run P w = .ok v w) (hp : post v L') (hL : ∀ w, Sat W w L → Sat W w L') (hdf : N.df = [] := by rfl) :
    WQ (postC P fn W post) .normal N l W L := fun a w K S => by
  show LeavesInM Fence.wide 0 P fn a.tmps _ a.defers .returning w
  rw [K.dfr, hdf]
  exact ⟨v, hr a w K S, v, L', rfl, hp, hL w S⟩
/-- A block that is no cells has turned. -/
theorem Sat.putObj {w : World} {k : Nat} {o o' : Obj} (S : Sat W w (blk k o :: L)) : Sat W (w.putObj k o') (blk k o' :: L) := by
  have hr := S.read.2
  exact S.turn rfl rfl rfl (by simp [World.putObj]) (World.putObj_heap_same (Array.getElem?_eq_some_iff.1 hr).1) (fun j hj => World.putObj_heap_other hj)
abbrev markD (r : Nat) : Deferred := { target := .collected r, args := #[] }
theorem r_none {fn : Func} (h : fn.results = #[]) : ∀ a w, Know a N l → Sat W w L → (results fn a.tmps).run P w = .ok (.tuple #[]) w := fun a w _ _ => results_none h a.tmps P w
theorem r_one {fn : Func} {t : Nat} {v : Value} (h : fn.results = #[.tmp t]) (hv : lk l t = some v) : ∀ a w, Know a N l → Sat W w L → (results fn a.tmps).run P w = .ok v w := fun a w K _ => by
  rw [results_tmp h, K.val t v hv]
theorem CS.mono {f : FuncId} {args : Array Value} {post post' : Value → List Res → Prop} (h : CS P f args W L post) (hi : ∀ v L', post v L' → post' v L') : CS P f args W L post' := fun w S =>
  (h w S).mono fun _ _ ⟨v, L', he, hp, hs⟩ => ⟨v, L', he, hi v L' hp, hs⟩
theorem CS.conv {f : FuncId} {args : Array Value} {post : Value → List Res → Prop} (hc : ∀ w, Sat W w L → Sat W w L') (h : CS P f args W L' post) : CS P f args W L post := fun w S => h w (hc w S)
theorem semAt_run {ro : Option Nat} {ρ : Operand → Value} {o : Oper} {w w' : World} {n : Next} (h : (execOp ρ o).run P w = .ok n w') (hn : ∀ d, n ≠ .defer d) : (o.semAt ro ρ).run P w = .ok n w' := by
  cases ro with
  | none => exact h
  | some l =>
    unfold Oper.semAt
    split
    · rename_i c _ hop
      exfalso
      simp only [execOp, hop, Sem.run_bind] at h
      cases hr : (resolve ρ c o.type).run P w with
      | ok d w1 =>
        rw [hr] at h
        simp only [Result.andThen_ok, Sem.run_pure, Result.ok.injEq] at h
        exact hn _ h.1.symm
      | halt x w1 =>
        rw [hr] at h
        cases h
    · exact h
theorem wpIn_of_run {ro : Option Nat} {o : Oper} {a : Act} {w w' : World} {n : Next} {next : Act → World → Prop} {Q : Exit → Act → World → Prop} (h : (execOp a.eval o).run P w = .ok n w') (hn : ∀ d, n ≠ .defer d)
    (hu : o.uponIn (fen ro) 0 P a next Q (.ok n w')) : o.wpIn (fen ro) 0 P a w next Q := ⟨fun _ _ => trivial, by
  show o.uponIn (fen ro) 0 P a next Q ((o.semAt ro a.eval).run P w)
  rw [semAt_run h hn]; exact hu⟩
theorem o_run {d : Nat} {op : Op} {ty : TypeId} {pos : String} {af : Array Edge} {v : Value} (hd : Nat.ble (d + 1) N = true)
    (hr : ∀ a w, Know a N l → Sat W w L → ∃ w', (execOp a.eval ⟨some d, op, ty, pos, af, none⟩).run P w = .ok (.value v) w' ∧ Sat W w' L')
    (h : WL P ops Q rest N ((d, v) :: l) W L') : WL P ops Q (⟨some d, op, ty, pos, af, none⟩ :: rest) N l W L := fun a w K S => by
  obtain ⟨w', h1, h2⟩ := hr a w K S
  refine wpListIn_plain rfl fun k hk => wpIn_of_run h1 (by simp) ?_
  exact hk _ _ (h _ _ (K.put hd v) h2)
theorem o_val {d : Nat} {op : Op} {ty : TypeId} {pos : String} {af : Array Edge} {v : Value} (hd : Nat.ble (d + 1) N = true)
    (hr : ∀ a w, Know a N l → Sat W w L → (execOp a.eval ⟨some d, op, ty, pos, af, none⟩).run P w = .ok (.value v) w)
    (h : WL P ops Q rest N ((d, v) :: l) W L) : WL P ops Q (⟨some d, op, ty, pos, af, none⟩ :: rest) N l W L :=
  o_run hd (fun a w K S => ⟨w, hr a w K S, S⟩) h
theorem o_skip {op : Op} {ty : TypeId} {pos : String} {af : Array Edge}
    (hr : ∀ a w, Know a N l → Sat W w L → ∃ w', (execOp a.eval ⟨none, op, ty, pos, af, none⟩).run P w = .ok .skip w' ∧ Sat W w' L')
    (h : WL P ops Q rest N l W L') : WL P ops Q (⟨none, op, ty, pos, af, none⟩ :: rest) N l W L := fun a w K S => by
  obtain ⟨w', h1, h2⟩ := hr a w K S
  refine wpListIn_plain rfl fun k hk => wpIn_of_run h1 (by simp) ?_
  exact hk _ _ (h _ _ (K.none _) h2)
/-- A guarded operation that is carried out, or isn't. -/
theorem o_yes {dst : Option Tmp} {op : Op} {ty : TypeId} {pos : String} {af : Array Edge} {j d : Nat} {b : Bool} (hj : (ops[j]?).bind (·.dst) = some d) (hv : lk l d = some (.bool b)) (hd : Nat.ble (d + 1) N = true)
    (h : WL P ops Q (⟨dst, op, ty, pos, af, none⟩ :: rest) N l W L) : WL P ops Q (⟨dst, op, ty, pos, af, some (j, b)⟩ :: rest) N l W L := fun a w K S => by
  have hd' : d < a.tmps.size := by rw [K.size]; exact Nat.le_of_ble_eq_true hd
  have hy : yielded ops a.tmps j = some b := by
    have := K.val d _ hv
    simp only [yielded, hj, Option.bind_some]
    rw [Array.getD_eq_getD_getElem?, Array.getElem?_eq_getElem hd'] at this
    rw [Array.getElem?_eq_getElem hd']
    simp only [Option.getD_some] at this
    rw [this]
  have h1 := h a w K S
  unfold wpListIn at h1 ⊢
  rw [if_pos (by simp [Region.wanted])] at h1
  rw [if_pos (by simp [Region.wanted, hy])]
  exact h1
theorem o_no {d0 : Nat} {op : Op} {ty : TypeId} {pos : String} {af : Array Edge} {j d : Nat} {b : Bool} {v : Value} (hj : (ops[j]?).bind (·.dst) = some d) (hv : lk l d = some v) (hb : (match v with | .bool c => c == b | _ => false) = false) (hd : Nat.ble (d0 + 1) N = true)
    (h : WL P ops Q rest N ((d0, undef) :: l) W L) : WL P ops Q (⟨some d0, op, ty, pos, af, some (j, b)⟩ :: rest) N l W L := fun a w K S => by
  have hy : yielded ops a.tmps j ≠ some b := by
    have := K.val d _ hv
    simp only [yielded, hj, Option.bind_some]
    rw [Array.getD_eq_getD_getElem?] at this
    cases hg : a.tmps[d]? with
    | none => simp
    | some u =>
      rw [hg] at this
      simp only [Option.getD_some] at this
      subst this
      cases u <;> simp
      intro e
      subst e
      simp at hb
  unfold wpListIn
  rw [if_neg (by simp [Region.wanted, hy])]
  exact ⟨fun _ _ => trivial, h _ _ (K.put hd _) S⟩
end
end
section
set_option linter.unusedVariables false
set_option linter.unusedSimpArgs false
open Go.RowKit
/-- A type's row of the table. -/
def TI (P : Program) (t : TypeId) (z : Value) (size bytes : Nat) : Prop := (P.info? t).map (fun i => (i.zero, i.size, i.bytes)) = some (some z, size, bytes)
theorem TI.get {P : Program} {t : TypeId} {z : Value} {size bytes : Nat} (h : TI P t z size bytes) : ∃ i, P.info? t = some i ∧ i.zero = some z ∧ i.size = size ∧ i.bytes = bytes := by
  obtain ⟨i, hi, he⟩ := Option.map_eq_some_iff.1 h
  simp only [Prod.mk.injEq] at he
  exact ⟨i, hi, he.1, he.2.1, he.2.2⟩
def aggD : TypeDesc → Bool
  | .struct _ => true
  | .array _ _ => true
  | _ => false
theorem run_isAgg {P : Program} {t : TypeId} {d : TypeDesc} (h : P.underlying t = some d) (w : World) : (isAgg t).run P w = .ok (aggD d) w := by
  cases d <;> simp [isAgg, run_underlying h, aggD]
theorem run_sizeOf' {P : Program} {t : TypeId} {z : Value} {s b : Nat} (h : TI P t z s b) (w : World) : (sizeOf t).run P w = .ok s w := by
  obtain ⟨i, hi, _, hs, _⟩ := h.get
  simp [sizeOf, typeInfo, hi, hs]
theorem run_zeroValue' {P : Program} {t : TypeId} {z : Value} {s b : Nat} (h : TI P t z s b) (w : World) : (zeroValue t).run P w = .ok z w := by
  obtain ⟨i, hi, hz, _, _⟩ := h.get
  simp [zeroValue, typeInfo, hi, hz]
theorem Addr.add_add' (a : Addr) (i j : Nat) : (a.add i).add j = a.add (i + j) := by
  by_cases hi : i = 0
  · subst hi; simp [Addr.add]
  · by_cases hj : j = 0
    · subst hj; simp [Addr.add]
    · simp [Addr.add, hi, hj, Nat.add_assoc]
def BinV (P : Program) (op : BinOp) (t : TypeId) (x y : Operand) (a b r : Value) : Prop := ∀ w, (do eqGuard op t x y a b; binOp op t a b : Sem Value).run P w = .ok r w
section
variable {P : Program} {t : TypeId} {x y : Operand} {k : IntKind} {m n r : Int}
theorem b_add (h : k.wrap (m + n) = r) : BinV P .add t x y (.int k m) (.int k n) (.int k r) := fun w => by simp [eqGuard, binOp, Op.intArith, h]
theorem b_sub (h : k.wrap (m - n) = r) : BinV P .sub t x y (.int k m) (.int k n) (.int k r) := fun w => by simp [eqGuard, binOp, Op.intArith, h]
theorem b_lss : BinV P .lss t x y (.int k m) (.int k n) (.bool (decide (m < n))) := fun w => by simp [eqGuard, binOp, Op.intCmp]
theorem b_gtr : BinV P .gtr t x y (.int k m) (.int k n) (.bool (decide (n < m))) := fun w => by simp [eqGuard, binOp, Op.intCmp]
theorem b_geq : BinV P .geq t x y (.int k m) (.int k n) (.bool (decide (n ≤ m))) := fun w => by simp [eqGuard, binOp, Op.intCmp]
theorem b_eql : BinV P .eql t x y (.int k m) (.int k n) (.bool (decide (m = n))) := fun w => by simp [eqGuard, binOp, Op.intCmp]; rfl
theorem b_neq : BinV P .neq t x y (.int k m) (.int k n) (.bool (!decide (m = n))) := fun w => by simp [eqGuard, binOp, Op.intCmp]; rfl
end
section
variable {P : Program} {t : TypeId} {x y : Operand} {s u : ByteArray}
end
section
variable {P : Program} {t e : TypeId} {x y : Operand}
theorem binV_of {op : BinOp} {a b r : Value} (h : ∀ w, (eqGuard op t x y a b).run P w = .ok () w) (hr : ∀ w, (binOp op t a b).run P w = .ok r w) : BinV P op t x y a b r := fun w => by
  rw [Sem.run_bind, h w]
  exact hr w
theorem pointee_of (ht : P.underlying t = some (.pointer e)) : P.underlying t = some (.pointer (P.pointee t)) := by
  simp [Program.pointee, ht]
theorem b_peq (ht : P.underlying t = some (.pointer e)) (p : Option Addr) : BinV P .eql t x y (.pointer p) (.pointer none) (.bool p.isNone) := binV_of (fun w => by simp [eqGuard]) fun w => run_eql_pointer_nil w t p (pointee_of ht)
theorem b_bne (ht : P.underlying t = some .bool) (a b : Bool) : BinV P .neq t x y (.bool a) (.bool b) (.bool (!(a == b))) := binV_of (fun w => by simp [eqGuard]) fun w => run_neq_bool w t a b ht
end
def opvs (l : Fr) : List Operand → Option (List Value)
  | [] => some []
  | x :: xs => match opv l x, opvs l xs with
    | some v, some vs => some (v :: vs)
    | _, _ => none
theorem opvs_map {a : Act} {N : FN} {l : Fr} (K : Know a N l) : ∀ {xs : List Operand} {vs : List Value}, opvs l xs = some vs → xs.map a.eval = vs
  | [], vs, h => by simp only [opvs, Option.some.injEq] at h; subst h; rfl
  | x :: xs, vs, h => by
    simp only [opvs] at h
    split at h
    · rename_i v vs' h1 h2
      simp only [Option.some.injEq] at h
      subst h
      simp [K.eval h1, opvs_map K h2]
    · cases h
structure Callable (P : Program) (f : FuncId) : Prop where
  is : ∃ fn, P.funcs[f]? = some fn ∧ fn.body.isNone = false ∧ (fn.name == "runtime.NumGoroutine") = false
section
variable {P : Program} {N : FN} {l : Fr} {W : World} {L L0 : List Res} {Q : Exit → Act → World → Prop} {ops : Array Oper} {rest : List Oper}
variable {d : Nat} {ty : TypeId} {pos : String} {af : Array Edge}
theorem o_runx {α : Type} {op : Op} {vv : α → Value} {LL : α → List Res} (hd : Nat.ble (d + 1) N = true)
    (hr : ∀ a w, Know a N l → Sat W w L → ∃ x w', (execOp a.eval ⟨some d, op, ty, pos, af, none⟩).run P w = .ok (.value (vv x)) w' ∧ Sat W w' (LL x))
    (h : ∀ x, WL P ops Q rest N ((d, vv x) :: l) W (LL x)) : WL P ops Q (⟨some d, op, ty, pos, af, none⟩ :: rest) N l W L := fun a w K S => by
  obtain ⟨x, w', h1, h2⟩ := hr a w K S
  refine wpListIn_plain rfl fun k hk => wpIn_of_run h1 (by simp) ?_
  exact hk _ _ (h x _ _ (K.put hd _) h2)
theorem o_move {x : Operand} {v : Value} (hd : Nat.ble (d + 1) N = true) (hx : opv l x = some v) (h : WL P ops Q rest N ((d, v) :: l) W L) : WL P ops Q (⟨some d, .move x, ty, pos, af, none⟩ :: rest) N l W L :=
  o_val hd (fun a w K _ => by simp [execOp, K.eval hx]) h
theorem o_assign {x : Operand} {v : Value} (hd : Nat.ble (d + 1) N = true) (hx : opv l x = some v) (h : WL P ops Q rest N ((d, v) :: l) W L) : WL P ops Q (⟨some d, .assign x, ty, pos, af, none⟩ :: rest) N l W L :=
  o_val hd (fun a w K _ => by simp [execOp, K.eval hx]) h
theorem o_pick_true {c x y : Operand} {v : Value} (hd : Nat.ble (d + 1) N = true) (hc : opv l c = some (.bool true)) (hx : opv l x = some v) (h : WL P ops Q rest N ((d, v) :: l) W L) :
    WL P ops Q (⟨some d, .pick c x y, ty, pos, af, none⟩ :: rest) N l W L :=
  o_val hd (fun a w K _ => by simp [execOp, K.eval hx, K.eval hc, asBool]) h
theorem o_pick_false {c x y : Operand} {v : Value} (hd : Nat.ble (d + 1) N = true) (hc : opv l c = some (.bool false)) (hy : opv l y = some v) (h : WL P ops Q rest N ((d, v) :: l) W L) :
    WL P ops Q (⟨some d, .pick c x y, ty, pos, af, none⟩ :: rest) N l W L :=
  o_val hd (fun a w K _ => by simp [execOp, K.eval hy, K.eval hc, asBool]) h
theorem o_nil {x : Operand} {p : Addr} (hd : Nat.ble (d + 1) N = true) (hx : opv l x = some (.pointer (some p))) (h : WL P ops Q rest N ((d, .pointer (some p)) :: l) W L) :
    WL P ops Q (⟨some d, .nilCheck x, ty, pos, af, none⟩ :: rest) N l W L :=
  o_val hd (fun a w K _ => by simp [execOp, K.eval hx]) h
theorem o_bin {op : BinOp} {t yt : TypeId} {x y : Operand} {a b r : Value} (hd : Nat.ble (d + 1) N = true) (hx : opv l x = some a) (hy : opv l y = some b) (hr : BinV P op t x y a b r) (h : WL P ops Q rest N ((d, r) :: l) W L) :
    WL P ops Q (⟨some d, .binOp op t x y yt, ty, pos, af, none⟩ :: rest) N l W L :=
  o_val hd (fun a w K _ => by
    have := hr w
    rw [Sem.run_bind] at this
    simp only [execOp, K.eval hx, K.eval hy]
    rw [Sem.run_bind, Sem.run_bind, this]
    rfl) h
theorem o_not {t : TypeId} {x : Operand} {b : Bool} (hd : Nat.ble (d + 1) N = true) (hx : opv l x = some (.bool b)) (h : WL P ops Q rest N ((d, .bool (!b)) :: l) W L) :
    WL P ops Q (⟨some d, .unOp .not t x, ty, pos, af, none⟩ :: rest) N l W L :=
  o_val hd (fun a w K _ => by simp [execOp, K.eval hx, Op.unary]) h
theorem o_extract {x : Operand} {vs : Array Value} {i : Nat} {v : Value} (hd : Nat.ble (d + 1) N = true) (hx : opv l x = some (.tuple vs)) (hv : vs[i]? = some v) (h : WL P ops Q rest N ((d, v) :: l) W L) :
    WL P ops Q (⟨some d, .extract x i, ty, pos, af, none⟩ :: rest) N l W L :=
  o_val hd (fun a w K _ => by simp [execOp, K.eval hx, Instr.extract, hv]) h
theorem o_fieldAddr {t : TypeId} {x : Operand} {i : Nat} {p q : Addr} {fs : Array Field} {f : Field} {z : Value} {s b : Nat} (hd : Nat.ble (d + 1) N = true) (hx : opv l x = some (.pointer (some p))) (ht : P.underlying t = some (.struct fs)) (hf : fs[i]? = some f)
    (hi : TI P f.type z (s + 1) b) (hp : p.add f.offset = q) (h : WL P ops Q rest N ((d, .pointer (some q)) :: l) W L) :
    WL P ops Q (⟨some d, .fieldAddr t x i, ty, pos, af, none⟩ :: rest) N l W L :=
  o_val hd (fun a w K _ => by simp [execOp, K.eval hx, Instr.fieldAt, run_underlying ht, hf, Instr.sureAddr, fieldPlace, run_sizeOf' hi, hp]) h
theorem o_lenStr {t : TypeId} {x : Operand} {s : ByteArray} (hd : Nat.ble (d + 1) N = true) (hx : opv l x = some (.string s)) (ht : P.underlying t = some .string) (h : WL P ops Q rest N ((d, .int .i64 (s.size : Int)) :: l) W L) :
    WL P ops Q (⟨some d, .call { callee := .builtin .len, args := #[x], argTypes := #[t] }, ty, pos, af, none⟩ :: rest) N l W L :=
  o_val hd (fun a w K _ => by simp [execOp, resolve, invoke, builtin, K.eval hx, Builtin.len_, run_underlying ht, goInt]) h
theorem o_len {t e : TypeId} {x : Operand} {p : Option Addr} {n c : Nat} (hd : Nat.ble (d + 1) N = true) (hx : opv l x = some (.slice p n c)) (ht : P.underlying t = some (.slice e)) (h : WL P ops Q rest N ((d, .int .i64 (n : Int)) :: l) W L) :
    WL P ops Q (⟨some d, .call { callee := .builtin .len, args := #[x], argTypes := #[t] }, ty, pos, af, none⟩ :: rest) N l W L :=
  o_val hd (fun a w K _ => by simp [execOp, resolve, invoke, builtin, K.eval hx, Builtin.len_, run_underlying ht, goInt]) h
theorem calls_in {f : FuncId} {args : Array Value} {w : World} {R : Ending → World → Prop} {ro : Option Nat} (h : Calls P f args w R) : CallsIn (fen ro) 0 P f args w R := by
  have h1 : CallsIn Fence.wide 0 P f args w R := callsIn_wide.2 h
  exact h1
/-- What a function's value does when it is called. -/
def FV (P : Program) (fv : Value) (args : List Value) (W : World) (L : List Res) (post : Value → List Res → Prop) : Prop :=
  ∀ w, Sat W w L → ∀ (ρ : Operand → Value) (x : Operand) (as9 : Array Operand) (tys : Array TypeId) (dst : Option Tmp) (ty : TypeId) (pos : String) (af : Array Edge) (g : Option (Nat × Bool)), ρ x = fv → as9.map ρ = args.toArray →
    ∃ n w', (execOp ρ ⟨dst, .call { callee := .value x, args := as9, argTypes := tys }, ty, pos, af, g⟩).run P w = .ok n w' ∧
      ((∃ f vs, n = .enter f vs ∧ Calls P f vs w' fun e w'' => ∃ v L', e = .returned v ∧ post v L' ∧ Sat W w'' L') ∨
       (∃ l f tmps assign body, n = .round l f tmps assign body ∧ RoundIn Fence.wide 0 P l f tmps assign body w' fun e w'' => ∃ v L', e = .returned v ∧ post v L' ∧ Sat W w'' L'))
theorem FV.of_cs {f : FuncId} {first caps : Array Value} {args : List Value} {post : Value → List Res → Prop} (hcl : Callable P f) (h : CS P f (first ++ args.toArray ++ caps) W L post) : FV P (.func (.func f) first caps) args W L post := fun w S ρ x as9 tys dst ty pos af g hx ha => by
  obtain ⟨fn, hf, hb, hn⟩ := hcl.is
  have hn' : ¬ fn.name = "runtime.NumGoroutine" := by simpa using hn
  have hb' : ¬ fn.body = none := by
    intro h0
    rw [h0] at hb
    cases hb
  refine ⟨_, w, ?_, .inl ⟨f, first ++ args.toArray ++ caps, rfl, h w S⟩⟩
  simp [execOp, resolve, Deferred.ofValue, invoke, callFunc, ha, hx, hf, hb', hn']
theorem FV.mono {fv : Value} {args : List Value} {post post' : Value → List Res → Prop} (h : FV P fv args W L post) (hi : ∀ v L', post v L' → post' v L') : FV P fv args W L post' := fun w S ρ x as9 tys dst ty pos af g hx ha => by
  obtain ⟨n, w', h1, h2⟩ := h w S ρ x as9 tys dst ty pos af g hx ha
  refine ⟨n, w', h1, ?_⟩
  rcases h2 with ⟨f, vs, he, hc⟩ | ⟨l, f, tmps, assign, body, he, hc⟩
  · exact .inl ⟨f, vs, he, hc.mono fun _ _ ⟨v, L', he, hp, hs⟩ => ⟨v, L', he, hi v L' hp, hs⟩⟩
  · exact .inr ⟨l, f, tmps, assign, body, he, hc.mono fun _ _ ⟨v, L', he, hp, hs⟩ => ⟨v, L', he, hi v L' hp, hs⟩⟩
theorem FV.conv {fv : Value} {args : List Value} {L' : List Res} {post : Value → List Res → Prop} (hc : ∀ w, Sat W w L → Sat W w L') (h : FV P fv args W L' post) : FV P fv args W L post := fun w S => h w (hc w S)
/-- Any function's value that is known is called. -/
theorem o_callV {x : Operand} {fv : Value} {args : Array Operand} {tys : Array TypeId} {vs : List Value} {post : Value → List Res → Prop} (hd : Nat.ble (d + 1) N = true) (hx : opv l x = some fv) (ha : opvs l args.toList = some vs) (hc : FV P fv vs W L post)
    (h : ∀ v L', post v L' → WL P ops Q rest N ((d, v) :: l) W L') : WL P ops Q (⟨some d, .call { callee := .value x, args := args, argTypes := tys }, ty, pos, af, none⟩ :: rest) N l W L := fun a w K S => by
  have hm : args.map a.eval = vs.toArray := by
    have := opvs_map K ha
    apply Array.toList_inj.1
    simpa using this
  obtain ⟨n, w', h1, h2⟩ := hc w S a.eval x args tys (some d) ty pos af none (K.eval hx) hm
  refine wpListIn_plain rfl fun k hk => ?_
  rcases h2 with ⟨f, as9, rfl, hcc⟩ | ⟨l', f, tmps, assign, body, rfl, hcc⟩
  · refine wpIn_of_run h1 (by simp) ⟨by simp [fen], (calls_in hcc).mono ?_⟩
    rintro e w' ⟨v, L', rfl, hp, hs⟩
    exact hk _ _ (h v L' hp _ _ (K.put hd v) hs)
  · have hcc' : RoundIn (fen N.ro) 0 P l' f tmps assign body w' _ := hcc
    refine wpIn_of_run h1 (by simp) ⟨by simp [fen], hcc'.mono ?_⟩
    rintro e w' ⟨v, L', rfl, hp, hs⟩
    exact hk _ _ (h v L' hp _ _ (K.put hd v) hs)
theorem o_call {f : FuncId} {args : Array Operand} {tys : Array TypeId} {vs : List Value} {post : Value → List Res → Prop} (hd : Nat.ble (d + 1) N = true) (hcl : Callable P f) (ha : opvs l args.toList = some vs) (hc : CS P f vs.toArray W L post)
    (h : ∀ v L', post v L' → WL P ops Q rest N ((d, v) :: l) W L') : WL P ops Q (⟨some d, .call { callee := .value (.func f), args := args, argTypes := tys }, ty, pos, af, none⟩ :: rest) N l W L :=
  o_callV hd (x := .func f) rfl ha (FV.of_cs hcl (by simpa using hc)) h
/-- A function's value is made: with what it captures. -/
theorem o_makeFunc {fn : Fn} {first caps : Array Operand} {fs cs : List Value} (hd : Nat.ble (d + 1) N = true) (hf : opvs l first.toList = some fs) (hc : opvs l caps.toList = some cs) (h : WL P ops Q rest N ((d, .func fn fs.toArray cs.toArray) :: l) W L) :
    WL P ops Q (⟨some d, .makeFunc fn first caps, ty, pos, af, none⟩ :: rest) N l W L :=
  o_val hd (fun a w K _ => by
    have h1 : first.map a.eval = fs.toArray := by
      have := opvs_map K hf
      apply Array.toList_inj.1
      simpa using this
    have h2 : caps.map a.eval = cs.toArray := by
      have := opvs_map K hc
      apply Array.toList_inj.1
      simpa using this
    simp [execOp, Instr.makeFunc, h1, h2]) h
end
end
section
set_option linter.unusedVariables false
set_option linter.unusedSimpArgs false
open Go.RowKit
def Rd (W : World) (L : List Res) (p : Addr) (v : Value) : Prop := ∀ w, Sat W w L → w.cell? p = some v
def RdN (W : World) (L : List Res) (p : Addr) (vs : List Value) : Prop := ∀ w, Sat W w L → ∀ j u, vs[j]? = some u → w.cell? (p.add j) = some u
theorem Addr.add_mk (k j o : Nat) : (⟨k, j, none⟩ : Addr).add o = ⟨k, j + o, none⟩ := by
  unfold Addr.add
  split
  · rename_i h; subst h; rfl
  · rfl
section
variable {W : World} {L : List Res} {k j T : Nat} {cs : Array Value} {m : Nat × Nat} {v : Value}
theorem mem_front {L : List Res} {A : Res} (h : A ∈ L) {w : World} (S : Sat W w L) : ∃ L', Sat W w (A :: L') :=
  let ⟨s, t, e⟩ := List.append_of_mem h
  ⟨s ++ t, S.perm (by rw [e]; exact List.perm_middle)⟩
theorem rd_mem (i : Nat) (h : L[i]? = some (blk k (.cells cs T m))) (hc : cs[j]? = some v) : Rd W L ⟨k, j, none⟩ v := fun w S => by
  obtain ⟨L', S'⟩ := mem_front (List.mem_of_getElem? h) S
  rw [S'.cell, hc]
theorem rdn_mem (i : Nat) (h : L[i]? = some (blk k (.cells cs T m))) {vs : List Value} (hc : ∀ o u, vs[o]? = some u → cs[j + o]? = some u) : RdN W L ⟨k, j, none⟩ vs := fun w S o u ho => by
  obtain ⟨L', S'⟩ := mem_front (List.mem_of_getElem? h) S
  rw [Addr.add_mk, S'.cell, hc o u ho]
end
def row (T sz : Nat) (a : Option Addr) (n c : Nat) (cs : List Value) : Res := fun h =>
  cs.length = n * sz ∧ ((a = none ∧ n = 0 ∧ c = 0 ∧ emp h) ∨ ∃ g cur, a = some ⟨g, 0, none⟩ ∧ n ≤ c ∧ c ≤ maxLen ∧ c * sz ≤ cur.size ∧ cur.toList.take (n * sz) = cs ∧ blk g (.cells cur T (0, 0)) h)
section
variable {W w w' : World} {L : List Res} {T sz n c : Nat} {a : Option Addr} {cs : List Value}
theorem Sat.own_cases (S : Sat W w (row T sz a n c cs :: L)) : cs.length = n * sz ∧ ((a = none ∧ n = 0 ∧ c = 0 ∧ Sat W w (emp :: L)) ∨ ∃ g cur, a = some ⟨g, 0, none⟩ ∧ n ≤ c ∧ c ≤ maxLen ∧ c * sz ≤ cur.size ∧ cur.toList.take (n * sz) = cs ∧ Sat W w (blk g (.cells cur T (0, 0)) :: L)) := by
  obtain ⟨y, ⟨x, b, hd, he, ⟨hl, hx⟩, hb⟩, hy⟩ := S.own
  refine ⟨hl, ?_⟩
  rcases hx with ⟨h1, h2, h3, h4⟩ | ⟨g, cur, h1, h2, h3, h4, h5, h6⟩
  · exact .inl ⟨h1, h2, h3, S.below, S.dr, y, ⟨x, b, hd, he, h4, hb⟩, hy⟩
  · exact .inr ⟨g, cur, h1, h2, h3, h4, h5, S.below, S.dr, y, ⟨x, b, hd, he, h6, hb⟩, hy⟩
theorem Sat.own_nil (S : Sat W w L) : Sat W w (row T sz none 0 0 [] :: L) := S.emp_.imp fun h he => ⟨by simp, .inl ⟨rfl, rfl, rfl, he⟩⟩
theorem Sat.own_mk {g : Nat} {cur : Array Value} (S : Sat W w (blk g (.cells cur T (0, 0)) :: L)) (h1 : n ≤ c) (h2 : c ≤ maxLen) (h3 : c * sz ≤ cur.size) (h4 : cur.toList.take (n * sz) = cs) :
    Sat W w (row T sz (some ⟨g, 0, none⟩) n c cs :: L) := S.imp fun h hb => ⟨by
      rw [← h4, List.length_take, Array.length_toList]
      exact Nat.min_eq_left (Nat.le_trans (Nat.mul_le_mul_right _ h1) h3), .inr ⟨g, cur, rfl, h1, h2, h3, h4, hb⟩⟩
/-- What a row of its own is made of. -/
theorem Sat.own_new {v' : Value} {n' : Nat} {cs' : List Value} (S : Sat W w L) (hr : w'.ownsRow w.heap.size T sz v' n' cs') (hg : w.grownBy w' none) (hdr : w.drawn ≤ w'.drawn) : ∃ a' c', v' = .slice a' n' c' ∧ Sat W w' (row T sz a' n' c' cs' :: L) := by
  rcases hr.2 with ⟨rfl, rfl⟩ | ⟨g', cap, cur', rfl, hb, hh, h6, h7, h8, h9⟩
  · have hcs : cs' = [] := List.eq_nil_of_length_eq_zero (by simpa using hr.1)
    subst hcs
    have S1 : Sat W w' L := by
      have hbl : Below w.heap.size w w' := ⟨hg.os, hg.tape, hg.output, hg.size, fun k hk => hg.block k hk (by simp)⟩
      exact S.more hbl hdr
    exact ⟨none, 0, rfl, S1.own_nil⟩
  · exact ⟨_, _, rfl, (S.grown0 hg hdr hh hb).own_mk h6 h7 (Nat.le_of_eq h8.symm) h9⟩
theorem Sat.own_len (S : Sat W w (row T sz a n c cs :: L)) : cs.length = n * sz ∧ n ≤ c ∧ c ≤ maxLen := by
  obtain ⟨hl, ⟨rfl, rfl, rfl, _⟩ | ⟨g, cur, rfl, h2, h3, h4, h5, S'⟩⟩ := S.own_cases
  · exact ⟨hl, Nat.le_refl _, by simp [maxLen]⟩
  · exact ⟨hl, h2, h3⟩
theorem Sat.own_at (S : Sat W w (row T sz a n c cs :: L)) (h0 : cs ≠ []) : ∃ g, a = some ⟨g, 0, none⟩ := by
  obtain ⟨hl, ⟨rfl, rfl, rfl, _⟩ | ⟨g, cur, rfl, h2, h3, h4, h5, S'⟩⟩ := S.own_cases
  · exact absurd (List.eq_nil_of_length_eq_zero (by simpa using hl)) h0
  · exact ⟨g, rfl⟩
theorem Sat.own_cell {g : Nat} (S : Sat W w (row T sz (some ⟨g, 0, none⟩) n c cs :: L)) (j : Nat) (u : Value) (hj : cs[j]? = some u) : w.cell? ⟨g, j, none⟩ = some u := by
  obtain ⟨hl, ⟨h, _⟩ | ⟨g', cur, he, h2, h3, h4, h5, S'⟩⟩ := S.own_cases
  · cases h
  · cases he
    rw [S'.cell]
    rw [← h5, List.getElem?_take] at hj
    split at hj
    · simpa using hj
    · cases hj
theorem setIf_take {cur : Array Value} {j k : Nat} {v : Value} : (cur.setIfInBounds j v).toList.take k = (cur.toList.take k).set j v := by
  rw [Array.toList_setIfInBounds, List.take_set]
theorem Sat.own_set {g : Nat} (S : Sat W w (row T sz (some ⟨g, 0, none⟩) n c cs :: L)) (j : Nat) (u : Value) : Sat W (w.setCell ⟨g, j, none⟩ u) (row T sz (some ⟨g, 0, none⟩) n c (cs.set j u) :: L) := by
  obtain ⟨hl, ⟨h, _⟩ | ⟨g', cur, he, h2, h3, h4, h5, S'⟩⟩ := S.own_cases
  · cases h
  · cases he
    exact (S'.setCell j u).own_mk h2 h3 (by simpa using h4) (by rw [setIf_take, h5])
theorem Sat.own_frozen {g : Nat} (S : Sat W w (row T sz (some ⟨g, 0, none⟩) n c cs :: L)) (j : Nat) : w.frozen? ⟨g, j, none⟩ = false := by
  obtain ⟨hl, ⟨h, _⟩ | ⟨g', cur, he, h2, h3, h4, h5, S'⟩⟩ := S.own_cases
  · cases h
  · cases he
    exact S'.frozen j
end
structure Enc (α : Type) where
  T : TypeId
  sz : Nat
  bytes : Nat
  z : Value
  cells : α → List Value
structure EncOk {α : Type} (P : Program) (e : Enc α) : Prop where
  ti : TI P e.T e.z e.sz e.bytes
  zs : e.z.cells.size = e.sz
  pos : 0 < e.sz
  len : ∀ x, (e.cells x).length = e.sz
  one : ∀ x, ∀ v ∈ e.cells x, v.oneCell' = true
def flat {α : Type} (e : Enc α) (xs : List α) : List Value := xs.flatMap e.cells
section
variable {α : Type} {P : Program} {e : Enc α}
theorem flat_append (xs ys : List α) : flat e (xs ++ ys) = flat e xs ++ flat e ys := by simp [flat]
theorem flat_length (ok : EncOk P e) (xs : List α) : (flat e xs).length = xs.length * e.sz := by
  induction xs with
  | nil => simp [flat]
  | cons x xs ih =>
    have : flat e (x :: xs) = e.cells x ++ flat e xs := rfl
    rw [this, List.length_append, ok.len, ih, List.length_cons, Nat.add_mul, Nat.one_mul, Nat.add_comm]
theorem flat_one (ok : EncOk P e) (xs : List α) : ∀ v ∈ flat e xs, v.oneCell' = true := fun v hv => by
  simp only [flat, List.mem_flatMap] at hv
  obtain ⟨x, _, hx⟩ := hv
  exact ok.one x v hx
theorem flat_get (ok : EncOk P e) {xs : List α} {i : Nat} {x : α} (hx : xs[i]? = some x) {o : Nat} {u : Value} (ho : (e.cells x)[o]? = some u) : (flat e xs)[i * e.sz + o]? = some u := by
  induction xs generalizing i with
  | nil => cases hx
  | cons y ys ih =>
    have h0 : flat e (y :: ys) = e.cells y ++ flat e ys := rfl
    rw [h0]
    cases i with
    | zero =>
      simp only [List.getElem?_cons_zero, Option.some.injEq] at hx
      subst hx
      rw [Nat.zero_mul, Nat.zero_add, List.getElem?_append_left (List.getElem?_eq_some_iff.1 ho).1]
      exact ho
    | succ i =>
      rw [List.getElem?_append_right (by rw [ok.len, Nat.add_mul]; omega), ok.len, Nat.add_mul, Nat.one_mul]
      rw [show i * e.sz + e.sz + o - e.sz = i * e.sz + o by omega]
      exact ih (by simpa using hx)
theorem flat_set (ok : EncOk P e) {xs : List α} {i : Nat} {x y : α} (hx : xs[i]? = some x) (o : Nat) (u : Value) (ho : o < e.sz) (hy : e.cells y = (e.cells x).set o u) : (flat e xs).set (i * e.sz + o) u = flat e (xs.set i y) := by
  induction xs generalizing i with
  | nil => cases hx
  | cons z zs ih =>
    have h0 : flat e (z :: zs) = e.cells z ++ flat e zs := rfl
    rw [h0]
    cases i with
    | zero =>
      simp only [List.getElem?_cons_zero, Option.some.injEq] at hx
      subst hx
      rw [Nat.zero_mul, Nat.zero_add, List.set_append_left _ _ (by rw [ok.len]; exact ho), ← hy]
      rfl
    | succ i =>
      rw [List.set_append_right _ _ (by rw [ok.len, Nat.add_mul]; omega), ok.len, Nat.add_mul, Nat.one_mul]
      rw [show i * e.sz + e.sz + o - e.sz = i * e.sz + o by omega, ih (by simpa using hx)]
      rfl
end
/-- A slice whose elements can be read. -/
def SlR {α : Type} (w : World) (e : Enc α) (a : Option Addr) (xs : List α) : Prop := xs ≠ [] → ∃ ad, a = some ad ∧ ∀ j u, (flat e xs)[j]? = some u → w.cell? (ad.add j) = some u
def RdS {α : Type} (W : World) (L : List Res) (e : Enc α) (a : Option Addr) (xs : List α) : Prop := ∀ w, Sat W w L → SlR w e a xs
section
variable {α : Type} {P : Program} {e : Enc α} {W w : World} {L : List Res} {a : Option Addr} {xs : List α} {c : Nat}
theorem flat_ne (ok : EncOk P e) (h : xs ≠ []) : flat e xs ≠ [] := fun h0 => h (by
  have h2 := flat_length ok xs
  rw [h0, List.length_nil] at h2
  have h3 := ok.pos
  rcases Nat.eq_zero_or_pos xs.length with hz | hz
  · exact List.eq_nil_of_length_eq_zero hz
  · have := Nat.mul_pos hz h3; omega)
theorem Sat.own_rds (ok : EncOk P e) (S : Sat W w (row e.T e.sz a xs.length c (flat e xs) :: L)) : SlR w e a xs := fun hne => by
  obtain ⟨g, rfl⟩ := S.own_at (flat_ne ok hne)
  refine ⟨_, rfl, fun j u hj => ?_⟩
  rw [Addr.add_mk, Nat.zero_add]
  exact S.own_cell j u hj
theorem rds_own (ok : EncOk P e) (i : Nat) (h : L[i]? = some (row e.T e.sz a xs.length c (flat e xs))) : RdS W L e a xs := fun w S => by
  obtain ⟨L', S'⟩ := mem_front (List.mem_of_getElem? h) S
  exact S'.own_rds ok
theorem rd_sl (ok : EncOk P e) {ad : Addr} (ha : a = some ad) (h : RdS W L e a xs) {i : Nat} {x : α} (hx : xs[i]? = some x) {o : Nat} {u : Value} (ho : (e.cells x)[o]? = some u) : Rd W L (ad.add (i * e.sz + o)) u := fun w S => by
  subst ha
  obtain ⟨ad', he, hc⟩ := h w S (fun h0 => by subst h0; cases hx)
  cases he
  exact hc _ _ (flat_get ok hx ho)
theorem rd_sl0 (ok : EncOk P e) {ad : Addr} (ha : a = some ad) (h : RdS W L e a xs) {i : Nat} {x : α} (hx : xs[i]? = some x) {u : Value} (ho : (e.cells x)[0]? = some u) : Rd W L (ad.add (i * e.sz)) u := rd_sl ok ha h hx ho
theorem rdn_sl (ok : EncOk P e) {ad : Addr} (ha : a = some ad) (h : RdS W L e a xs) {i : Nat} {x : α} (hx : xs[i]? = some x) : RdN W L (ad.add (i * e.sz)) (e.cells x) := fun w S o u ho => by
  rw [Addr.add_add']
  exact rd_sl ok ha h hx ho w S
theorem RdS.below (h : RdS W L e a xs) {L2 : List Res} (hc : ∀ w, Sat W w L2 → Sat W w L) : RdS W L2 e a xs := fun w S => h w (hc w S)
/-- In the old world itself. -/
theorem rds_old (h : SlR W e a xs) : RdS W L e a xs := fun w S hne => by
  obtain ⟨ad, he, hc⟩ := h hne
  exact ⟨ad, he, fun j u hj => (S.below.cell (World.block_lt_of_cell? W _ (hc j u hj))).trans (hc j u hj)⟩
end
theorem cells_one {v : Value} (hv : v.oneCell' = true) : v.cells = #[v] := by cases v <;> first | rfl | (simp [Value.oneCell'] at hv)
theorem run_store_one {P : Program} {w : World} {p : Addr} {v u : Value} (hv : v.oneCell' = true) (h1 : w.cell? p = some u) (h2 : w.frozen? p = false) : (store p v).run P w = .ok () (w.setCell p v) := by
  cases v <;> first | (simp [Value.oneCell'] at hv; done) | simp [store, Sem.run, h1, h2]
section
variable {P : Program} {N : FN} {l : Fr} {W : World} {L L0 : List Res} {Q : Exit → Act → World → Prop} {ops : Array Oper} {rest : List Oper}
variable {d : Nat} {ty : TypeId} {pos : String} {af : Array Edge}
theorem o_load1 {t : TypeId} {x : Operand} {p : Addr} {td : TypeDesc} {v : Value} (hd : Nat.ble (d + 1) N = true) (hx : opv l x = some (.pointer (some p))) (hu : P.underlying t = some td) (ha : aggD td = false) (hr : Rd W L p v)
    (h : WL P ops Q rest N ((d, v) :: l) W L) : WL P ops Q (⟨some d, .load t x, ty, pos, af, none⟩ :: rest) N l W L :=
  o_val hd (fun a w K S => by simp [execOp, K.eval hx, Instr.loadAt, Instr.sureAddr, loadVar, run_isAgg hu, ha, hr w S]) h
theorem o_loadn {t : TypeId} {x : Operand} {p : Addr} {td : TypeDesc} {z : Value} {b : Nat} {vs : List Value} (hd : Nat.ble (d + 1) N = true) (hx : opv l x = some (.pointer (some p))) (hu : P.underlying t = some td) (ha : aggD td = true) (hi : TI P t z vs.length b) (hr : RdN W L p vs)
    (h : WL P ops Q rest N ((d, .agg vs.toArray) :: l) W L) : WL P ops Q (⟨some d, .load t x, ty, pos, af, none⟩ :: rest) N l W L :=
  o_val hd (fun a w K S => by
    have := run_loadCells_list (P := P) w p vs (hr w S)
    simp [execOp, K.eval hx, Instr.loadAt, Instr.sureAddr, loadVar, run_isAgg hu, ha, run_sizeOf' hi, this]) h
theorem o_store1 {t : TypeId} {x y : Operand} {k j T : Nat} {cs cs' : Array Value} {z v : Value} {b : Nat} (hx : opv l x = some (.pointer (some ⟨k, j, none⟩))) (hy : opv l y = some v) (hv : v.oneCell' = true) (hi : TI P t z 1 b) (hj0 : Nat.ble (j + 1) cs.size = true) (hc : cs.setIfInBounds j v = cs')
    (h : WL P ops Q rest N l W (blk k (.cells cs' T (0, 0)) :: L)) : WL P ops Q (⟨none, .store t x y, ty, pos, af, none⟩ :: rest) N l W (blk k (.cells cs T (0, 0)) :: L) :=
  o_skip (fun a w K S => ⟨w.setCell ⟨k, j, none⟩ v, by
    have h1 := S.cell j
    have h2 := S.frozen j
    have hj : j < cs.size := Nat.le_of_ble_eq_true hj0
    rw [Array.getElem?_eq_getElem hj] at h1
    simp only [execOp, K.eval hx, K.eval hy, Instr.storeAt, Instr.sureAddr, storeVar]
    have h3 := cells_one hv
    simp [run_sizeOf' hi, h3, storeCells, Addr.add, run_store_one hv h1 h2], by
    subst hc
    exact S.setCell j v⟩) h
theorem o_storeOwn {t : TypeId} {x y : Operand} {g j T sz n c : Nat} {cs cs' : List Value} {z v : Value} {b : Nat} (hx : opv l x = some (.pointer (some ⟨g, j, none⟩))) (hy : opv l y = some v) (hv : v.oneCell' = true) (hi : TI P t z 1 b) (hj : j < cs.length) (hc : cs.set j v = cs')
    (h : WL P ops Q rest N l W (row T sz (some ⟨g, 0, none⟩) n c cs' :: L)) : WL P ops Q (⟨none, .store t x y, ty, pos, af, none⟩ :: rest) N l W (row T sz (some ⟨g, 0, none⟩) n c cs :: L) :=
  o_skip (fun a w K S => ⟨w.setCell ⟨g, j, none⟩ v, by
    have h1 := S.own_cell j cs[j] (List.getElem?_eq_getElem hj)
    have h2 := S.own_frozen j
    simp only [execOp, K.eval hx, K.eval hy, Instr.storeAt, Instr.sureAddr, storeVar]
    have h3 := cells_one hv
    simp [run_sizeOf' hi, h3, storeCells, Addr.add, run_store_one hv h1 h2], by
    subst hc
    exact S.own_set j v⟩) h
theorem o_storen {t : TypeId} {x y : Operand} {k j T : Nat} {cs cs' vs : Array Value} {z : Value} {b : Nat} (hx : opv l x = some (.pointer (some ⟨k, j, none⟩))) (hy : opv l y = some (.agg vs)) (hi : TI P t z vs.size b) (hj : Nat.ble (j + vs.size) cs.size = true) (_h0 : (0 : Nat) = 0) (hvb : vs.toList.all (fun v => v.oneCell') = true)
    (hc : (cs.toList.take j ++ vs.toList ++ cs.toList.drop (j + vs.size)).toArray = cs') (h : WL P ops Q rest N l W (blk k (.cells cs' T (0, 0)) :: L)) : WL P ops Q (⟨none, .store t x y, ty, pos, af, none⟩ :: rest) N l W (blk k (.cells cs T (0, 0)) :: L) :=
  o_skip (fun a w K S => ⟨w.setRow k cs', by
    subst hc
    have hv : ∀ v ∈ vs.toList, v.oneCell' = true := fun v hv => List.all_eq_true.1 hvb v hv
    have h1 := run_storeCells_at P k j T vs.toList 0 cs w S.read.2 (by have := Nat.le_of_ble_eq_true hj; simpa using this) hv
    simp only [Nat.add_zero, Array.length_toList] at h1
    simp [execOp, K.eval hx, K.eval hy, Instr.storeAt, Instr.sureAddr, storeVar, run_sizeOf' hi, Value.cells, h1], by
    refine S.turn rfl rfl rfl (by simp [World.setRow]) (setRow_heap w k cs _ T _ S.read.2) (fun i hi => setRow_other w k i _ hi)⟩) h
theorem o_alloc {t : TypeId} {z : Value} {s b : Nat} (hd : Nat.ble (d + 1) N = true) (hi : TI P t z s b) (h : ∀ k, WL P ops Q rest N ((d, .pointer (some ⟨k, 0, none⟩)) :: l) W (blk k (.cells z.cells t (0, 0)) :: L)) :
    WL P ops Q (⟨some d, .alloc t, ty, pos, af, none⟩ :: rest) N l W L :=
  o_runx hd (vv := fun k => .pointer (some ⟨k, 0, none⟩)) (LL := fun k => blk k (.cells z.cells t (0, 0)) :: L) (fun a w K S => ⟨w.heap.size, w.alloc (.cells z.cells t), by simp [execOp, Instr.alloc, run_zeroValue' hi, newVar, newRow], S.alloc _⟩) h
theorem o_box {t : TypeId} {x : Operand} {v : Value} (hd : Nat.ble (d + 1) N = true) (hx : opv l x = some v) (h : ∀ k, WL P ops Q rest N ((d, .pointer (some ⟨k, 0, none⟩)) :: l) W (blk k (.cells v.cells t (0, 0)) :: L)) :
    WL P ops Q (⟨some d, .box t x, ty, pos, af, none⟩ :: rest) N l W L :=
  o_runx hd (vv := fun k => .pointer (some ⟨k, 0, none⟩)) (LL := fun k => blk k (.cells v.cells t (0, 0)) :: L) (fun a w K S => ⟨w.heap.size, w.alloc (.cells v.cells t), by simp [execOp, Instr.box, K.eval hx, newVar, newRow], S.alloc _⟩) h
theorem o_index {α : Type} {e : Enc α} {t : TypeId} {x y : Operand} {a : Option Addr} {c : Nat} {k : IntKind} {q : Int} {xs : List α} (ok : EncOk P e) (hd : Nat.ble (d + 1) N = true) (hx : opv l x = some (.slice a xs.length c)) (hy : opv l y = some (.int k q)) (ht : P.underlying t = some (.slice e.T))
    (h0 : 0 ≤ q) (h1 : q < xs.length) (hr : RdS W L e a xs) (h : ∀ ad, a = some ad → WL P ops Q rest N ((d, .pointer (some (ad.add (q.toNat * e.sz)))) :: l) W L) :
    WL P ops Q (⟨some d, .indexAddr t x y, ty, pos, af, none⟩ :: rest) N l W L :=
  o_runx (α := { ad : Addr // a = some ad }) hd (vv := fun ad => .pointer (some (ad.1.add (q.toNat * e.sz)))) (LL := fun _ => L) (fun b w K S => by
    obtain ⟨ad, rfl, hc⟩ := hr w S (fun h0 => by subst h0; simp at h1; omega)
    exact ⟨⟨ad, rfl⟩, w, by simp [execOp, K.eval hx, K.eval hy, Instr.indexAt, asIntOf, run_underlying ht, h0, h1, run_sizeOf' ok.ti], S⟩) fun x => h x.1 x.2
theorem o_indexK {α : Type} {e : Enc α} {t : TypeId} {x y : Operand} {a : Option Addr} {ad : Addr} {n c : Nat} {k : IntKind} {q : Int} (ok : EncOk P e) (ea : a = some ad) (hd : Nat.ble (d + 1) N = true) (hx : opv l x = some (.slice a n c)) (hy : opv l y = some (.int k q)) (ht : P.underlying t = some (.slice e.T))
    (h0 : 0 ≤ q) (h1 : q < n) (h : WL P ops Q rest N ((d, .pointer (some (ad.add (q.toNat * e.sz)))) :: l) W L) :
    WL P ops Q (⟨some d, .indexAddr t x y, ty, pos, af, none⟩ :: rest) N l W L :=
  o_val hd (fun b w K S => by
    subst ea
    simp [execOp, K.eval hx, K.eval hy, Instr.indexAt, asIntOf, run_underlying ht, h0, h1, run_sizeOf' ok.ti]) h
theorem rds_some {α : Type} {e : Enc α} {a : Option Addr} {xs : List α} (h : RdS W L e a xs) (hne : xs ≠ []) : ∀ w, Sat W w L → ∃ ad, a = some ad := fun w S => let ⟨ad, h1, _⟩ := h w S hne; ⟨ad, h1⟩
theorem rds_c {α : Type} {e : Enc α} {a : Option Addr} {xs : List α} {A : Res} (h : RdS W L e a xs) : RdS W (A :: L) e a xs := fun w S => h w S.tail
theorem Sat.row_addr {w : World} {T sz n c : Nat} {a : Option Addr} {ad : Addr} {cs : List Value} (ea : a = some ad) (S : Sat W w (row T sz a n c cs :: L)) : ∃ g, ad = ⟨g, 0, none⟩ := by
  obtain ⟨_, ⟨rfl, _⟩ | ⟨g, cur, rfl, _⟩⟩ := S.own_cases
  · cases ea
  · cases ea; exact ⟨g, rfl⟩
theorem o_storeRow {α : Type} {e : Enc α} {t : TypeId} {x y : Operand} {a : Option Addr} {ad : Addr} {i o c : Nat} {xs : List α} {x0 x1 : α} {z v : Value} {b : Nat} (ok : EncOk P e) (ea : a = some ad) (hx : opv l x = some (.pointer (some (ad.add (i * e.sz + o))))) (hy : opv l y = some v) (hv : v.oneCell' = true) (hi : TI P t z 1 b)
    (hg : xs[i]? = some x0) (ho : o < e.sz) (hc : e.cells x1 = (e.cells x0).set o v) (h : WL P ops Q rest N l W (row e.T e.sz a (xs.set i x1).length c (flat e (xs.set i x1)) :: L)) : WL P ops Q (⟨none, .store t x y, ty, pos, af, none⟩ :: rest) N l W (row e.T e.sz a xs.length c (flat e xs) :: L) := fun b' w K S => by
  obtain ⟨g, rfl⟩ := S.row_addr ea
  subst ea
  rw [Addr.add_mk, Nat.zero_add] at hx
  have hlt : i * e.sz + o < (flat e xs).length := by
    rw [flat_length ok]
    have h1 := (List.getElem?_eq_some_iff.1 hg).1
    have h2 : (i + 1) * e.sz ≤ xs.length * e.sz := Nat.mul_le_mul_right _ h1
    rw [Nat.add_mul] at h2
    omega
  rw [List.length_set] at h
  exact o_storeOwn hx hy hv hi hlt (flat_set ok hg o v ho hc) h b' w K S
theorem o_storeRow0 {α : Type} {e : Enc α} {t : TypeId} {x y : Operand} {a : Option Addr} {ad : Addr} {i c : Nat} {xs : List α} {x0 x1 : α} {z v : Value} {b : Nat} (ok : EncOk P e) (ea : a = some ad) (hx : opv l x = some (.pointer (some (ad.add (i * e.sz))))) (hy : opv l y = some v) (hv : v.oneCell' = true) (hi : TI P t z 1 b)
    (hg : xs[i]? = some x0) (hc : e.cells x1 = (e.cells x0).set 0 v) (h : WL P ops Q rest N l W (row e.T e.sz a (xs.set i x1).length c (flat e (xs.set i x1)) :: L)) : WL P ops Q (⟨none, .store t x y, ty, pos, af, none⟩ :: rest) N l W (row e.T e.sz a xs.length c (flat e xs) :: L) :=
  o_storeRow ok ea (o := 0) hx hy hv hi hg ok.pos hc h
theorem run_append_room_row {w w1 : World} (t ty e : TypeId) (i : TypeInfo) (ht : P.underlying t = some (.slice e)) (hi : P.info? e = some i)
    (b off sLen sCap : Nat) (a : Addr) (m c : Nat) (news : List Value) (hl : news.length = m * i.size) (hnews : ∀ j u, news[j]? = some u → w.cell? (a.add j) = some u)
    (hroom : sLen + m ≤ sCap) (hst : (storeCells ⟨b, off + sLen * i.size, none⟩ news 0).run P w = .ok () w1) :
    (Builtin.append_ #[t, t] ty #[.slice (some ⟨b, off, none⟩) sLen sCap, .slice (some a) m c]).run P w = .ok (.slice (some ⟨b, off, none⟩) (sLen + m) sCap) w1 := by
  have hfc := run_firstCells_some (P := P) w i.size m a m c news hl hnews
  simp [Builtin.append_, run_underlying ht, sizeOf, typeInfo, hi, Builtin.lenOf, hroom, hfc, Addr.add_lit, hst]
theorem o_append {α : Type} {e : Enc α} {t : TypeId} {x y : Operand} {a b : Option Addr} {c c2 : Nat} {xs ys : List α} (ok : EncOk P e) (hd : Nat.ble (d + 1) N = true) (hx : opv l x = some (.slice a xs.length c)) (hy : opv l y = some (.slice b ys.length c2)) (ht : P.underlying t = some (.slice e.T))
    (hr : RdS W (row e.T e.sz a xs.length c (flat e xs) :: L) e b ys) (hb : (xs.length + ys.length) * e.bytes ≤ 140737488355328) (hm : xs.length + ys.length ≤ 140737488355328)
    (h : ∀ a' c', WL P ops Q rest N ((d, .slice a' (xs ++ ys).length c') :: l) W (row e.T e.sz a' (xs ++ ys).length c' (flat e (xs ++ ys)) :: L)) :
    WL P ops Q (⟨some d, .call { callee := .builtin .append, args := #[x, y], argTypes := #[t, t] }, ty, pos, af, none⟩ :: rest) N l W (row e.T e.sz a xs.length c (flat e xs) :: L) :=
  o_runx (α := Option Addr × Nat) hd (vv := fun p => .slice p.1 (xs ++ ys).length p.2) (LL := fun p => row e.T e.sz p.1 (xs ++ ys).length p.2 (flat e (xs ++ ys)) :: L) (fun ac w K S => by
    obtain ⟨i, hi, hz, hs, hby⟩ := ok.ti.get
    cases b with
    | some bd =>
      have hnews : ∀ j u, (flat e ys)[j]? = some u → w.cell? (bd.add j) = some u := fun j u hj => by
        by_cases hys : ys = []
        · subst hys; simp [flat] at hj
        · obtain ⟨ad, he, hc⟩ := hr w S hys
          cases he
          exact hc j u hj
      have hny := flat_length ok ys
      obtain ⟨hl, ⟨h1, h2, h3, S'⟩ | ⟨g, cur, h1, h2, h3, h4, h5, S'⟩⟩ := S.own_cases
      · subst h1; subst h3
        have hxs : xs = [] := List.eq_nil_of_length_eq_zero h2
        subst hxs
        obtain ⟨v', w', h1, h2, h3, _, h5⟩ := run_append_own_at (P := P) w w.heap.size t ty e.T i e.z e.sz e.bytes ht hi hz hs hby ok.zs ok.pos (.slice none 0 0) 0 [] (World.ownsRow_nil w _ e.T e.sz) bd ys.length c2 (flat e ys) hny hnews (flat_one ok ys) (by simp only [maxLen]; omega) (by simpa using hb) (Nat.le_refl _)
        obtain ⟨a', c', rfl, S2⟩ := S'.tail.own_new h2 (by simpa [Value.ownBlock] using h3) (run_drawn _ _ h1)
        refine ⟨(a', c'), w', ?_, by simpa [flat_append] using S2⟩
        simp [execOp, resolve, invoke, builtin, K.eval hx, K.eval hy, h1]
      · subst h1
        by_cases hroom : xs.length + ys.length ≤ c
        · have hle : (xs.length + ys.length) * e.sz ≤ cur.size := Nat.le_trans (Nat.mul_le_mul_right _ hroom) h4
          rw [Nat.add_mul] at hle
          have hst := run_storeCells_at P g (xs.length * e.sz) e.T (flat e ys) 0 cur w S'.read.2 (by simp; omega) (flat_one ok ys)
          simp only [Nat.add_zero] at hst
          rw [← hs] at hst hny
          have hrun := run_append_room_row (P := P) t ty e.T i ht hi g 0 xs.length c bd ys.length c2 (flat e ys) hny hnews hroom (by rw [Nat.zero_add]; exact hst)
          refine ⟨(some ⟨g, 0, none⟩, c), w.setRow g (cur.toList.take (xs.length * e.sz) ++ flat e ys ++ cur.toList.drop (xs.length * e.sz + (flat e ys).length)).toArray, ?_, ?_⟩
          · rw [← hs]
            simp [execOp, resolve, invoke, builtin, K.eval hx, K.eval hy, hrun]
          · have S2 : Sat W (w.setRow g (cur.toList.take (xs.length * e.sz) ++ flat e ys ++ cur.toList.drop (xs.length * e.sz + (flat e ys).length)).toArray) (blk g (.cells (cur.toList.take (xs.length * e.sz) ++ flat e ys ++ cur.toList.drop (xs.length * e.sz + (flat e ys).length)).toArray e.T (0, 0)) :: L) :=
              S'.turn rfl rfl rfl (by simp [World.setRow]) (setRow_heap w g cur _ e.T _ S'.read.2) (fun q hq => setRow_other w g q _ hq)
            rw [hs] at hny
            refine S2.own_mk (by rw [List.length_append]; exact hroom) h3 ?_ ?_
            · rw [List.size_toArray]; simp only [List.length_append, List.length_take, List.length_drop, Array.length_toList]; omega
            · rw [List.toList_toArray, h5, ← flat_append]
              refine List.take_left' ?_
              rw [flat_length ok]
        · obtain ⟨v', w', h1, h2', h3'⟩ := run_append_arg_grows (P := P) w t ty e.T i e.z e.sz e.bytes ht hi hz hs hby ok.zs ok.pos ⟨g, 0, none⟩ xs.length c (flat e xs) (flat_length ok xs) (fun j u hj => by
            rw [Addr.add_lit, Nat.zero_add]
            exact S.own_cell j u hj) bd ys.length c2 (flat e ys) hny hnews (by omega) (by simp only [maxLen]; omega) hb
          obtain ⟨a', c', rfl, S2⟩ := S'.tail.own_new h2' h3' (run_drawn _ _ h1)
          refine ⟨(a', c'), w', ?_, by simpa [flat_append] using S2⟩
          simp [execOp, resolve, invoke, builtin, K.eval hx, K.eval hy, h1]
    | none =>
      have hys : ys = [] := Classical.byContradiction fun h0 => by
        obtain ⟨ad, he, _⟩ := hr w S h0
        cases he
      subst hys
      refine ⟨(a, c), w, ?_, by simpa using S⟩
      have := S.own_len
      simp [execOp, resolve, invoke, builtin, K.eval hx, K.eval hy, Builtin.append_, run_underlying ht, sizeOf, typeInfo, hi, Builtin.lenOf, Builtin.firstCells, this.2.1]
      cases a <;> simp [storeCells]) fun p => h p.1 p.2
end
end
section
set_option linter.unusedVariables false
set_option linter.unusedSimpArgs false
open Go.RowKit
/-- Where a key stands. -/
def mat {κ β : Type} [DecidableEq κ] : List (κ × β) → κ → Option (Nat × β)
  | [], _ => none
  | (j, b) :: D, k => if j = k then some (0, b) else (mat D k).map fun p => (p.1 + 1, p.2)
def mget {κ β : Type} [DecidableEq κ] (D : List (κ × β)) (k : κ) : Option β := (mat D k).map (·.2)
def mset {κ β : Type} [DecidableEq κ] (D : List (κ × β)) (k : κ) (b : β) : List (κ × β) :=
  match mat D k with
  | some (i, _) => D.set i (k, b)
  | none => D ++ [(k, b)]
section
variable {κ β : Type} [DecidableEq κ]
theorem mget_nil (k : κ) : mget ([] : List (κ × β)) k = none := rfl
theorem mget_cons (D : List (κ × β)) (j k : κ) (b : β) : mget ((j, b) :: D) k = if j = k then some b else mget D k := by
  simp only [mget, mat]
  split
  · rfl
  · cases mat D k <;> rfl
theorem mat_some {D : List (κ × β)} {k : κ} {i : Nat} {b : β} (h : mat D k = some (i, b)) : D[i]? = some (k, b) := by
  induction D generalizing i with
  | nil => cases h
  | cons p D ih =>
    obtain ⟨j, c⟩ := p
    simp only [mat] at h
    split at h
    · rename_i e
      simp only [Option.some.injEq, Prod.mk.injEq] at h
      obtain ⟨rfl, rfl⟩ := h
      simp [e]
    · simp only [Option.map_eq_some_iff] at h
      obtain ⟨⟨i', b'⟩, h1, h2⟩ := h
      simp only [Prod.mk.injEq] at h2
      obtain ⟨rfl, rfl⟩ := h2
      simpa using ih h1
theorem mat_append_none {D : List (κ × β)} {k : κ} (h : mat D k = none) (E : List (κ × β)) : mat (D ++ E) k = (mat E k).map fun p => (p.1 + D.length, p.2) := by
  induction D with
  | nil => simp
  | cons p D ih =>
    obtain ⟨j, c⟩ := p
    simp only [mat] at h
    split at h
    · cases h
    · rename_i e
      simp only [Option.map_eq_none_iff] at h
      simp only [List.cons_append, mat, e, if_false, ih h, Option.map_map, List.length_cons]
      congr 1
theorem mget_set (D : List (κ × β)) (k : κ) (b : β) (j : κ) : mget (mset D k b) j = if k = j then some b else mget D j := by
  unfold mset
  cases hm : mat D k with
  | none =>
    simp only
    by_cases e : k = j
    · subst e
      simp [mget, mat_append_none hm, mat]
    · rw [if_neg e]
      clear hm
      induction D with
      | nil => simp [mget, mat, e]
      | cons p D ih =>
        obtain ⟨i, c⟩ := p
        rw [List.cons_append, mget_cons, mget_cons, ih]
  | some p =>
    obtain ⟨i, c⟩ := p
    simp only
    induction D generalizing i with
    | nil => cases hm
    | cons p D ih =>
      obtain ⟨i', c'⟩ := p
      simp only [mat] at hm
      split at hm
      · rename_i e
        simp only [Option.some.injEq, Prod.mk.injEq] at hm
        obtain ⟨rfl, rfl⟩ := hm
        subst e
        simp only [List.set_cons_zero, mget_cons]
        split <;> rfl
      · rename_i e
        simp only [Option.map_eq_some_iff] at hm
        obtain ⟨⟨i2, b2⟩, h1, h2⟩ := hm
        simp only [Prod.mk.injEq] at h2
        obtain ⟨rfl, rfl⟩ := h2
        rw [List.set_cons_succ, mget_cons, mget_cons, ih i2 h1]
        by_cases e2 : i' = j
        · subst e2
          rw [if_pos rfl, if_pos rfl, if_neg (fun h => e h.symm)]
        · rw [if_neg e2, if_neg e2]
end
structure Ents {κ β : Type} (kv : κ → Value) (vv : β → Value) (D : List (κ × β)) (es : Array MapEntry) (clock : Nat) : Prop where
  same : es.toList.map (fun e => (e.key, e.val)) = D.map fun p => (kv p.1, vv p.2)
  born : (es.toList.map (·.born)).Pairwise (· < ·)
  less : ∀ e ∈ es.toList, e.born < clock
def mapR {κ β : Type} (kv : κ → Value) (vv : β → Value) (k : Nat) (D : List (κ × β)) : Res := fun h => ∃ es clock, Ents kv vv D es clock ∧ blk k (.map es clock) h
/-- A key's kind: the machine finds it. -/
structure KeyOk {κ : Type} [DecidableEq κ] (P : Program) (T : TypeId) (kv : κ → Value) : Prop where
  check : ∀ b k w, (Instr.checkKey b 10000 T (kv k)).run P w = .ok () w
  find : ∀ {β : Type} (vv : β → Value) (D : List (κ × β)) (es : List MapEntry) (k : κ) (w : World), es.map (fun e => (e.key, e.val)) = D.map (fun p => (kv p.1, vv p.2)) →
    (Instr.findKey T (kv k) es).run P w = .ok ((mat D k).map fun p => (p.1, vv p.2)) w
  bits : ∀ k, Instr.sameBits 10000 (kv k) (kv k) = true
section
variable {κ β : Type} {W w w' : World} {L : List Res} {kv : κ → Value} {vv : β → Value} {k : Nat} {D : List (κ × β)}
theorem Sat.map_read (S : Sat W w (mapR kv vv k D :: L)) : ∃ es clock, Ents kv vv D es clock ∧ Sat W w (blk k (.map es clock) :: L) := by
  obtain ⟨y, ⟨x, b, hd, he, ⟨es, clock, h1, h2⟩, hb⟩, hy⟩ := S.own
  exact ⟨es, clock, h1, S.below, S.dr, y, ⟨x, b, hd, he, h2, hb⟩, hy⟩
theorem Sat.map_mk {es : Array MapEntry} {clock : Nat} (h : Ents kv vv D es clock) (S : Sat W w (blk k (.map es clock) :: L)) : Sat W w (mapR kv vv k D :: L) := S.imp fun x hx => ⟨es, clock, h, hx⟩
def World.put (w : World) (k : Nat) (o : Obj) : World := { w with heap := w.heap.setIfInBounds k o }
theorem Sat.put {o o' : Obj} (S : Sat W w (blk k o :: L)) : Sat W (World.put w k o') (blk k o' :: L) := by
  have hr := S.read.2
  have hlt := (Array.getElem?_eq_some_iff.1 hr).1
  refine S.turn rfl rfl rfl (by simp [World.put]) ?_ (fun j hj => ?_)
  · simp [World.put, hlt]
  · simp only [World.put]; exact Array.getElem?_setIfInBounds_ne (fun e => hj e.symm)
theorem ents_nil : Ents kv vv ([] : List (κ × β)) #[] 0 := ⟨rfl, by simp, by simp⟩
theorem ents_push {es : Array MapEntry} {clock : Nat} (h : Ents kv vv D es clock) (q : κ) (b : β) : Ents kv vv (D ++ [(q, b)]) (es.push { key := kv q, val := vv b, born := clock }) (clock + 1) := by
  refine ⟨?_, ?_, ?_⟩
  · simp [h.same]
  · simp only [Array.toList_push, List.map_append, List.map_cons, List.map_nil]
    rw [List.pairwise_append]
    refine ⟨h.born, by simp, ?_⟩
    intro x hx y hy
    simp only [List.mem_map] at hx
    obtain ⟨e, he, rfl⟩ := hx
    simp only [List.mem_singleton] at hy
    subst hy
    exact h.less e he
  · intro e he
    simp only [Array.toList_push, List.mem_append, List.mem_singleton] at he
    rcases he with he | he
    · have := h.less e he; omega
    · subst he; simp
theorem modify_list {es : Array MapEntry} {i : Nat} (f : MapEntry → MapEntry) : (es.modify i f).toList = es.toList.modify i f := by simp
theorem ents_set [DecidableEq κ] {es : Array MapEntry} {clock i : Nat} {q : κ} {b0 : β} (h : Ents kv vv D es clock) (hm : mat D q = some (i, b0)) (b : β) : Ents kv vv (D.set i (q, b)) (es.modify i fun e => { e with key := kv q, val := vv b }) clock := by
  have hD := mat_some hm
  refine ⟨?_, ?_, ?_⟩
  · rw [modify_list]
    apply List.ext_getElem?
    intro j
    have hj := congrArg (·[j]?) h.same
    simp only [List.getElem?_map] at hj
    simp only [List.getElem?_map, List.getElem?_modify, List.getElem?_set]
    by_cases e : i = j
    · subst e
      have hlt := (List.getElem?_eq_some_iff.1 hD).1
      rw [hD] at hj
      cases hg : es.toList[i]? with
      | none => rw [hg] at hj; cases hj
      | some x => simp [hlt]
    · simp only [e, if_false]
      cases hg : es.toList[j]? with
      | none => rw [hg] at hj; simpa using hj
      | some x => rw [hg] at hj; simpa using hj
  · rw [modify_list]
    have : (es.toList.modify i fun e => { e with key := kv q, val := vv b }).map (·.born) = es.toList.map (·.born) := by
      apply List.ext_getElem?
      intro j
      simp only [List.getElem?_map, List.getElem?_modify]
      cases es.toList[j]? with
      | none => rfl
      | some x => by_cases e : i = j <;> simp [e]
    rw [this]
    exact h.born
  · intro e he
    rw [modify_list] at he
    obtain ⟨j, hj⟩ := List.getElem?_of_mem he
    rw [List.getElem?_modify] at hj
    cases hg : es.toList[j]? with
    | none => rw [hg] at hj; cases hj
    | some x =>
      rw [hg] at hj
      have hx := h.less x (List.mem_of_getElem? hg)
      by_cases e2 : i = j
      · simp only [e2, if_true, Option.map_eq_map, Option.map_some, Option.some.injEq] at hj
        subst hj
        exact hx
      · simp only [e2, if_false, Option.map_eq_map, Option.map_some, Option.some.injEq, id] at hj
        subst hj
        exact hx
end
theorem mem_idx {A : Res} {L : List Res} (i : Nat) (h : L[i]? = some A) {W w : World} (S : Sat W w L) : ∃ L', Sat W w (A :: L') := mem_front (List.mem_of_getElem? h) S
section
variable {P : Program} {N : FN} {l : Fr} {W : World} {L L0 : List Res} {Q : Exit → Act → World → Prop} {ops : Array Oper} {rest : List Oper}
variable {d : Nat} {ty : TypeId} {pos : String} {af : Array Edge} {κ β : Type} {kv : κ → Value} {vv : β → Value} {k : Nat} {D : List (κ × β)}
theorem o_makeMap {t : TypeId} (kv : κ → Value) (vv : β → Value) (hd : Nat.ble (d + 1) N = true) (h : ∀ k, WL P ops Q rest N ((d, .map (some k)) :: l) W (mapR kv vv k ([] : List (κ × β)) :: L)) :
    WL P ops Q (⟨some d, .makeMap t none, ty, pos, af, none⟩ :: rest) N l W L :=
  o_runx hd (vv := fun k => .map (some k)) (LL := fun k => mapR kv vv k ([] : List (κ × β)) :: L) (fun a w K S => ⟨w.heap.size, w.alloc (.map #[] 0), by
    simp [execOp, Instr.makeMap, run_newObj_alloc], (S.alloc _).map_mk ents_nil⟩) h
section
variable [DecidableEq κ]
theorem run_lookup {t Tk Te : TypeId} (ko : KeyOk P Tk kv) (ht : P.underlying t = some (.map Tk Te)) {z : Value} {s b : Nat} (hz : TI P Te z s b) (q : κ) (ok : Bool) {w : World} (S : Sat W w (mapR kv vv k D :: L)) :
    (Instr.lookup t (.map (some k)) (kv q) ok).run P w = .ok (if ok then .tuple #[((mget D q).map vv).getD z, .bool (mget D q).isSome] else ((mget D q).map vv).getD z) w := by
  obtain ⟨es, clock, he, S'⟩ := S.map_read
  have hr := S'.read.2
  have hf := ko.find vv D es.toList q w he.same
  have hc := ko.check es.isEmpty q w
  simp only [Instr.lookup, Sem.run_bind, run_underlying ht, Result.andThen_ok]
  have hg : (getObj k).run P w = .ok (.map es clock) w := by simp [getObj, Sem.run, hr]
  simp only [Sem.run_bind, hg, Result.andThen_ok, Sem.run_pure, hc, hf, mget]
  cases mat D q with
  | none => cases ok <;> simp [run_zeroValue' hz]
  | some p => cases ok <;> simp
end
section
variable [DecidableEq κ]
theorem o_lookupD {t Tk Te : TypeId} {x y : Operand} {s b : Nat} {q : κ} {b0 : β} (i : Nat) (hL : L[i]? = some (mapR kv vv k D)) (ko : KeyOk P Tk kv) (hd : Nat.ble (d + 1) N = true) (hx : opv l x = some (.map (some k))) (hy : opv l y = some (kv q)) (ht : P.underlying t = some (.map Tk Te)) (hz : TI P Te (vv b0) s b)
    (h : WL P ops Q rest N ((d, vv ((mget D q).getD b0)) :: l) W L) : WL P ops Q (⟨some d, .lookup t x y false, ty, pos, af, none⟩ :: rest) N l W L :=
  o_val hd (fun a w K S => by
    obtain ⟨L', S'⟩ := mem_idx i hL S
    have := run_lookup ko ht hz q false S'
    have h9 : ((mget D q).map vv).getD (vv b0) = vv ((mget D q).getD b0) := by cases mget D q <;> rfl
    rw [h9] at this
    simp [execOp, K.eval hx, K.eval hy, this]) h
end
theorem run_setObj_put {w : World} {o o' : Obj} (hr : w.heap[k]? = some o) (ho : (match o with | .cells .. => false | _ => true) = true) : (setObj k o').run P w = .ok () (World.put w k o') := by
  cases o <;> first | (simp at ho; done) | simp [setObj, Sem.run, hr, World.put]
end
end
section
set_option linter.unusedVariables false
set_option linter.unusedSimpArgs false
open Go.RowKit
theorem vint {k : IntKind} {a b : Int} (h : a = b) : some (Value.int k a) = some (Value.int k b) := by rw [h]
theorem wrap_i64 {x : Int} (h1 : -9223372036854775808 ≤ x) (h2 : x ≤ 9223372036854775807) : IntKind.i64.wrap x = x := by
  simp [IntKind.wrap, IntKind.signed, IntKind.bits]; omega
def l0of : Nat → List Value → Fr
  | _, [] => []
  | i, v :: vs => (i, v) :: l0of (i + 1) vs
theorem lk_l0of : ∀ (vs : List Value) (i t : Nat) (v : Value), lk (l0of i vs) t = some v → i ≤ t ∧ vs[t - i]? = some v
  | [], i, t, v, h => by cases h
  | u :: vs, i, t, v, h => by
    simp only [l0of] at h
    rw [lk_cons] at h
    split at h
    · rename_i e
      subst e
      simpa using h
    · rename_i e
      obtain ⟨h1, h2⟩ := lk_l0of vs (i + 1) t v h
      refine ⟨by omega, ?_⟩
      rw [show t - i = (t - (i + 1)) + 1 by omega, List.getElem?_cons_succ]
      exact h2
section
variable {P : Program} {N : FN} {l : Fr} {W : World} {L L' F : List Res} {Q : Exit → Act → World → Prop} {ops : Array Oper} {rest : List Oper}
theorem f_door {f : FuncId} {fn : Func} {c : Code} {args : Array Value} {post : Value → List Res → Prop} {l0 : Fr} {n : Nat} (hf : P.funcs[f]? = some fn) (hN : fn.ntmps = n) (hb : fn.body = some c) (hs : Nat.ble args.size n = true) (hl : l0of 0 args.toList = l0)
    (h : WC P c (postC P fn W post) { n := n } l0 W L) : CS P f args W L post := by
  subst hN
  refine f_enter hf hb l0 (fun a ha hdf => ?_) h
  subst hl
  refine ⟨?_, hdf, fun t v ht => ?_⟩
  · have := Nat.le_of_ble_eq_true hs
    rw [ha]; simp; omega
  · obtain ⟨_, h2⟩ := lk_l0of _ _ _ _ ht
    simp only [Nat.sub_zero, Array.getElem?_toList] at h2
    rw [ha, Array.getD_eq_getD_getElem?, Array.getElem?_append_left (Array.getElem?_eq_some_iff.1 h2).1, h2]
    rfl
theorem l_split {t : Nat} {b : Bool} (hx : lk l t = some (.bool b)) (ht : b = true → WL P ops Q rest N ((t, .bool true) :: l) W L) (he : b = false → WL P ops Q rest N ((t, .bool false) :: l) W L) : WL P ops Q rest N l W L := by
  cases b with
  | true => exact l_eq hx rfl (ht rfl)
  | false => exact l_eq hx rfl (he rfl)
theorem l_perm (hp : L.Perm L') (h : WL P ops Q rest N l W L') : WL P ops Q rest N l W L := l_conv (fun w S => S.perm hp) h
section
variable {A B C D E G H I J : Res}
theorem p1 : (A :: B :: L).Perm (B :: A :: L) := List.Perm.swap _ _ _
theorem p2 : (A :: B :: C :: L).Perm (C :: A :: B :: L) := (List.Perm.cons A (List.Perm.swap _ _ _)).trans (List.Perm.swap _ _ _)
theorem p3 : (A :: B :: C :: D :: L).Perm (D :: A :: B :: C :: L) := (List.Perm.cons A p2).trans (List.Perm.swap _ _ _)
theorem p4 : (A :: B :: C :: D :: E :: L).Perm (E :: A :: B :: C :: D :: L) := (List.Perm.cons A p3).trans (List.Perm.swap _ _ _)
theorem p5 : (A :: B :: C :: D :: E :: G :: L).Perm (G :: A :: B :: C :: D :: E :: L) := (List.Perm.cons A p4).trans (List.Perm.swap _ _ _)
theorem p6 : (A :: B :: C :: D :: E :: G :: H :: L).Perm (H :: A :: B :: C :: D :: E :: G :: L) := (List.Perm.cons A p5).trans (List.Perm.swap _ _ _)
theorem l_f1 (h : WL P ops Q rest N l W (B :: A :: L)) : WL P ops Q rest N l W (A :: B :: L) := l_perm p1 h
theorem l_f2 (h : WL P ops Q rest N l W (C :: A :: B :: L)) : WL P ops Q rest N l W (A :: B :: C :: L) := l_perm p2 h
theorem l_f4 (h : WL P ops Q rest N l W (E :: A :: B :: C :: D :: L)) : WL P ops Q rest N l W (A :: B :: C :: D :: E :: L) := l_perm p4 h
theorem l_f5 (h : WL P ops Q rest N l W (G :: A :: B :: C :: D :: E :: L)) : WL P ops Q rest N l W (A :: B :: C :: D :: E :: G :: L) := l_perm p5 h
theorem l_f6 (h : WL P ops Q rest N l W (H :: A :: B :: C :: D :: E :: G :: L)) : WL P ops Q rest N l W (A :: B :: C :: D :: E :: G :: H :: L) := l_perm p6 h
theorem l_drop (h : WL P ops Q rest N l W L) : WL P ops Q rest N l W (A :: L) := l_conv (fun w S => S.tail) h
end
theorem rdn_lit {k j T : Nat} {cs : Array Value} {m : Nat × Nat} {vs : List Value} (i : Nat) (h : L[i]? = some (blk k (.cells cs T m))) (hc : (cs.toList.drop j).take vs.length = vs) : RdN W L ⟨k, j, none⟩ vs :=
  rdn_mem i h fun o u ho => by
    rw [← hc, List.getElem?_take] at ho
    split at ho
    · simpa using ho
    · cases ho
/-- Ways meet: what holds behind a piece of code. -/
theorem c_mid {x y : Code} {α : Type} (l' : α → Fr) (L' : α → List Res) (p : α → Prop) (h1 : WC P x (Exit.then (fun a w => ∃ z, p z ∧ Know a N (l' z) ∧ Sat W w (L' z)) Q) N l W L)
    (h2 : ∀ z, p z → WC P y Q N (l' z) W (L' z)) : WC P x (Exit.then (y.wpIn (fen N.ro) 0 P Q) Q) N l W L := fun a w K S =>
  wpIn_mono (h1 a w K S) fun e a' w' hq => by
    cases e with
    | normal => obtain ⟨z, hz, Kz, Sz⟩ := hq; exact h2 z hz a' w' Kz Sz
    | exit _ => exact hq
    | goto _ => exact hq
    | ret => exact hq
    | panic _ => exact hq
    | outgrown => exact hq
theorem q_mid {α : Type} {l' : α → Fr} {L' : α → List Res} {p : α → Prop} (y : α) (hp : p y) (hl : subk (l' y) l) (hL : ∀ w, Sat W w L → Sat W w (L' y)) :
    WQ (Exit.then (fun a w => ∃ z, p z ∧ Know a N (l' z) ∧ Sat W w (L' z)) Q) .normal N l W L := fun _ w K S => ⟨y, hp, K.sub (subk_lk hl), hL w S⟩
/-- An operation yields a value and leaves the world alone. -/
def OV (P : Program) (N : FN) (l : Fr) (W : World) (L : List Res) (o : Oper) (v : Value) : Prop := ∀ a w, Know a N l → Sat W w L → (execOp a.eval o).run P w = .ok (.value v) w
def WLQ (P : Program) (ops : Array Oper) (Q : Exit → Act → World → Prop) (rest : List Oper) (N : FN) (l : Fr) (W : World) (L : List Res) : Prop :=
  ∀ a, Know a N l → wpQuiet P ops (fun w => Sat W w L) (fun a' => ∀ w', Sat W w' L → Q .normal a' w') rest a
theorem c_quiet {id : Nat} {ops : List Oper} (hm : P.follows .mixedOrders = true) (hB : Region.lexB .any ops.toArray = true) (h : WLQ P ops.toArray Q ops N l W L) (hro : N.ro = none := by rfl) : WC P (.region id ops.toArray true) Q N l W L := fun a w K S => by
  rw [hro]
  exact wpIn_wide.2 (wp_region_quiet (C := fun w => Sat W w L) hm hB (S.drew) (by simpa using h a K))
namespace Qt
theorem l_nil (h : WQ Q .normal N l W L) : WLQ P ops Q [] N l W L := fun a K => wpQuiet_nil (fun w' S => h a w' K S)
theorem l_eq {t : Nat} {v v' : Value} (hx : lk l t = some v) (e : v = v') (h : WLQ P ops Q rest N ((t, v') :: l) W L) : WLQ P ops Q rest N l W L := fun a K =>
  h a (K.sub (l' := (t, v') :: l) (fun s u hs => by
    rw [lk_cons] at hs
    split at hs
    · rename_i hts; subst hts; subst e; rw [hx]; exact hs
    · exact hs))
theorem l_split {t : Nat} {b : Bool} (hx : lk l t = some (.bool b)) (ht : b = true → WLQ P ops Q rest N ((t, .bool true) :: l) W L) (he : b = false → WLQ P ops Q rest N ((t, .bool false) :: l) W L) : WLQ P ops Q rest N l W L := by
  cases b with
  | true => exact l_eq hx rfl (ht rfl)
  | false => exact l_eq hx rfl (he rfl)
theorem o_val {d : Nat} {op : Op} {ty : TypeId} {pos : String} {af : Array Edge} {v : Value} (hd : Nat.ble (d + 1) N = true)
    (hr : ∀ a w, Know a N l → Sat W w L → (execOp a.eval ⟨some d, op, ty, pos, af, none⟩).run P w = .ok (.value v) w)
    (h : WLQ P ops Q rest N ((d, v) :: l) W L) : WLQ P ops Q (⟨some d, op, ty, pos, af, none⟩ :: rest) N l W L := fun a K =>
  wpQuiet_step fun k hk => by
    rw [if_pos (by simp [Region.wanted])]
    refine ⟨v, fun w S => ?_, hk _ (h _ (K.put hd v))⟩
    unfold Oper.quietAt
    rw [hr a w K S]
    exact ⟨rfl, rfl⟩
theorem o_yes {dst : Option Tmp} {op : Op} {ty : TypeId} {pos : String} {af : Array Edge} {j d : Nat} {b : Bool} (hj : (ops[j]?).bind (·.dst) = some d) (hv : lk l d = some (.bool b)) (hd : Nat.ble (d + 1) N = true)
    (h : WLQ P ops Q (⟨dst, op, ty, pos, af, none⟩ :: rest) N l W L) : WLQ P ops Q (⟨dst, op, ty, pos, af, some (j, b)⟩ :: rest) N l W L := fun a K => by
  have hd' : d < a.tmps.size := by rw [K.size]; exact Nat.le_of_ble_eq_true hd
  have hy : yielded ops a.tmps j = some b := by
    have := K.val d _ hv
    simp only [yielded, hj, Option.bind_some]
    rw [Array.getD_eq_getD_getElem?, Array.getElem?_eq_getElem hd'] at this
    rw [Array.getElem?_eq_getElem hd']
    simp only [Option.getD_some] at this
    rw [this]
  have h1 := h a K
  unfold wpQuiet at h1 ⊢
  rw [if_pos (by simp [Region.wanted])] at h1
  rw [if_pos (by simp [Region.wanted, hy])]
  exact h1
theorem o_no {d0 : Nat} {op : Op} {ty : TypeId} {pos : String} {af : Array Edge} {j d : Nat} {b : Bool} {v : Value} (hj : (ops[j]?).bind (·.dst) = some d) (hv : lk l d = some v) (hb : (match v with | .bool c => c == b | _ => false) = false) (hd : Nat.ble (d0 + 1) N = true)
    (h : WLQ P ops Q rest N ((d0, undef) :: l) W L) : WLQ P ops Q (⟨some d0, op, ty, pos, af, some (j, b)⟩ :: rest) N l W L := fun a K => by
  have hy : yielded ops a.tmps j ≠ some b := by
    have := K.val d _ hv
    simp only [yielded, hj, Option.bind_some]
    rw [Array.getD_eq_getD_getElem?] at this
    cases hg : a.tmps[d]? with
    | none => simp
    | some u =>
      rw [hg] at this
      simp only [Option.getD_some] at this
      subst this
      cases u <;> simp
      intro e
      subst e
      simp at hb
  unfold wpQuiet
  rw [if_neg (by simp [Region.wanted, hy])]
  exact h _ (K.put hd _)
end Qt
end
end
section
set_option linter.unusedVariables false
set_option linter.unusedSimpArgs false
open Go.RowKit
/-- The values of a literal's parts, each at its place. -/
def oppsFrom (l : Fr) : Nat → List (Nat × Operand) → Option (List Value)
  | _, [] => some []
  | i, (j, x) :: ps => if i = j then match opv l x, oppsFrom l (i + 1) ps with
      | some v, some vs => some (v :: vs)
      | _, _ => none
    else none
theorem opps_map {a : Act} {N : FN} {l : Fr} (K : Know a N l) : ∀ {ps : List (Nat × Operand)} {i : Nat} {vs : List Value}, oppsFrom l i ps = some vs → ps.map (fun p => (p.1, a.eval p.2)) = (vs.zipIdx i).map fun p => (p.2, p.1)
  | [], i, vs, h => by simp only [oppsFrom, Option.some.injEq] at h; subst h; rfl
  | (j, x) :: ps, i, vs, h => by
    simp only [oppsFrom] at h
    split at h
    · rename_i e
      subst e
      split at h
      · rename_i v vs' h1 h2
        simp only [Option.some.injEq] at h
        subst h
        simp [K.eval h1, opps_map K h2]
      · cases h
    · cases h
theorem setSeg (off : Nat) : ∀ (vs : List Value) (i : Nat) (cs : Array Value), off + i + vs.length ≤ cs.size →
    ((vs.zipIdx i).foldl (fun cs (p : Value × Nat) => cs.setIfInBounds (off + p.2) p.1) cs).toList = cs.toList.take (off + i) ++ vs ++ cs.toList.drop (off + i + vs.length)
  | [], i, cs, h => by simp
  | v :: vs, i, cs, h => by
    simp only [List.length_cons] at h
    simp only [List.zipIdx_cons, List.foldl_cons]
    rw [setSeg off vs (i + 1) _ (by simp; omega)]
    simp only [Array.toList_setIfInBounds, List.length_cons]
    have hlt : off + i < cs.toList.length := by simp; omega
    rw [List.take_set, List.drop_set_of_lt (by omega)]
    rw [show off + (i + 1) = off + i + 1 by omega, List.take_add_one, List.getElem?_eq_getElem hlt]
    simp only [Option.toList_some]
    rw [List.set_append_right _ _ (by rw [List.length_take]; omega)]
    rw [List.length_take, Nat.min_eq_left (by omega), Nat.sub_self]
    simp [show off + i + 1 + vs.length = off + i + (vs.length + 1) by omega]
theorem fillSeq (s : Nat) : ∀ (vs : List Value) (i : Nat) (cs : Array Value), cs.size = (i + vs.length) * s → (∀ v ∈ vs, v.cells.size = s) →
    Instr.fill (fun i => some (i * s, s)) cs ((vs.zipIdx i).map fun p => (p.2, p.1)) = some (cs.toList.take (i * s) ++ vs.flatMap (fun v => v.cells.toList)).toArray
  | [], i, cs, h, _ => by
    simp only [List.length_nil, Nat.add_zero] at h
    have : cs.toList.take (i * s) = cs.toList := List.take_of_length_le (by simp [h])
    simp [Instr.fill, this]
  | v :: vs, i, cs, h, hv => by
    have hs := hv v (by simp)
    simp only [List.length_cons] at h
    have hle : i * s + s ≤ cs.size := by
      rw [h, show i + (vs.length + 1) = (i + 1) + vs.length by omega, Nat.add_mul, Nat.add_mul]; omega
    simp only [List.zipIdx_cons, List.map_cons, Instr.fill]
    rw [if_neg (by simp [hs]; omega)]
    have hseg := setSeg (i * s) v.cells.toList 0 cs (by simp [hs]; omega)
    have hz : (v.cells.zipIdx.foldl (fun cs (p : Value × Nat) => cs.setIfInBounds (i * s + p.2) p.1) cs) = (cs.toList.take (i * s) ++ v.cells.toList ++ cs.toList.drop (i * s + s)).toArray := by
      apply Array.toList_inj.1
      rw [← Array.foldl_toList, Array.toList_zipIdx]
      simpa [hs] using hseg
    rw [hz, fillSeq s vs (i + 1) _ _ (fun u hu => hv u (by simp [hu]))]
    · congr 1
      rw [Nat.add_mul, Nat.one_mul]
      have hl : (cs.toList.take (i * s) ++ v.cells.toList).length = i * s + s := by simp [hs]; omega
      simp only [List.flatMap_cons]
      rw [← List.append_assoc]
      congr 1
      rw [← hl, List.take_left]
    · have e1 : (i + (vs.length + 1)) * s = i * s + vs.length * s + s := by rw [Nat.add_mul, Nat.add_mul]; omega
      have e2 : (i + 1 + vs.length) * s = i * s + vs.length * s + s := by rw [Nat.add_mul, Nat.add_mul]; omega
      rw [e1] at h
      simp [hs, e2]
      omega
section
variable {P : Program} {N : FN} {l : Fr} {W : World} {L L0 : List Res} {Q : Exit → Act → World → Prop} {ops : Array Oper} {rest : List Oper}
variable {d : Nat} {ty : TypeId} {pos : String} {af : Array Edge}
theorem o_lit {α : Type} {e : Enc α} {t n : Nat} {parts : Array (Nat × Operand)} {vs : List Value} (ok : EncOk P e) (hd : Nat.ble (d + 1) N = true) (ht : P.underlying t = some (.slice e.T)) (hp : oppsFrom l 0 parts.toList = some vs) (hn : vs.length = n) (hb : Nat.ble (n * e.sz) 16777216 = true)
    (hs : ∀ v ∈ vs, v.cells.size = e.sz) (xs : List α) (hx : vs.flatMap (fun v => v.cells.toList) = flat e xs) (hxl : xs.length = n)
    (h : ∀ a, WL P ops Q rest N ((d, .slice a xs.length n) :: l) W (row e.T e.sz a xs.length n (flat e xs) :: L)) : WL P ops Q (⟨some d, .buildSlice t n parts, ty, pos, af, none⟩ :: rest) N l W L :=
  o_runx (α := Option Addr) hd (vv := fun a => .slice a xs.length n) (LL := fun a => row e.T e.sz a xs.length n (flat e xs) :: L) (fun a w K S => by
    have hps : (parts.map fun (p : Nat × Operand) => (p.1, a.eval p.2)).toList = (vs.zipIdx 0).map fun p => (p.2, p.1) := by
      have := opps_map K hp
      simpa using this
    subst hn
    have hz : ∀ z : Array Value, ((Array.range (vs.length * e.sz)).map (fun i => z[i % z.size]!)).size = (0 + vs.length) * e.sz := fun z => by simp
    refine ⟨some ⟨w.heap.size, 0, none⟩, w.alloc (.cells (flat e xs).toArray e.T), ?_, ?_⟩
    · have hfill := fun z : Array Value => fillSeq e.sz vs 0 ((Array.range (vs.length * e.sz)).map (fun i => z[i % z.size]!)) (hz z) hs
      simp only [Nat.zero_mul, List.take_zero, List.nil_append, hx] at hfill
      have hle : ¬ 16777216 < vs.length * e.sz := by have := Nat.le_of_ble_eq_true hb; omega
      have hfill' : ∀ z : Array Value, Instr.fill (fun i => some (i * e.sz, e.sz)) ((Array.range (vs.length * e.sz)).map (fun i => z[i % z.size]!)) (parts.map fun (p : Nat × Operand) => (p.1, a.eval p.2)).toList = some (flat e xs).toArray := fun z => by
        rw [hps]; exact hfill z
      have hbuild : (Instr.buildSlice t vs.length (parts.map fun (p : Nat × Operand) => (p.1, a.eval p.2))).run P w = .ok (.slice (some ⟨w.heap.size, 0, none⟩) vs.length vs.length) (w.alloc (.cells (flat e xs).toArray e.T)) := by
        unfold Instr.buildSlice
        rw [Sem.run_bind, run_underlying ht, Result.andThen_ok]
        dsimp only
        rw [Sem.run_bind, run_sizeOf' ok.ti, Result.andThen_ok]
        rw [if_neg (by omega)]
        by_cases h0 : vs.length * e.sz = 0
        · rw [if_pos h0, Sem.run_bind, Sem.run_pure, Result.andThen_ok, hfill' #[]]
          simp [newRow]
        · rw [if_neg h0, Sem.run_bind, run_zeroValue' ok.ti, Result.andThen_ok, Sem.run_bind, Sem.run_pure, Result.andThen_ok, hfill' e.z.cells]
          simp [newRow]
      simp only [execOp]
      rw [Sem.run_bind]
      rw [hxl]
      first
        | (rw [hbuild]; rfl)
        | (erw [hbuild]; rfl)
    · rw [hxl]
      have hfl := flat_length ok xs
      refine (S.alloc _).own_mk (Nat.le_refl _) ?_ ?_ ?_
      · have := Nat.le_of_ble_eq_true hb
        have h2 := Nat.le_mul_of_pos_right vs.length ok.pos
        simp only [maxLen]; omega
      · simp [hfl, hxl]
      · simp [← hxl, ← hfl]) h
theorem lit_ok {vs : List Value} {n : Nat} (h : vs.all (fun v => v.cells.size == n) = true) : ∀ v ∈ vs, v.cells.size = n := fun v hv => by
  have := List.all_eq_true.1 h v hv
  simpa using this
theorem rds_nil {α : Type} (e : Enc α) (a : Option Addr) : RdS W L e a ([] : List α) := fun w S h => absurd rfl h
theorem c_nilrow {α : Type} {c : Code} (e : Enc α) (h : WC P c Q N l W (row e.T e.sz none ([] : List α).length 0 (flat e []) :: L)) : WC P c Q N l W L := c_conv (fun w S => S.own_nil) h
def placesOf (fs : Array Field) : Sem (Array (Nat × Nat)) := fs.mapM fun f => do pure (f.offset, ← sizeOf f.type)
structure StructP (P : Program) (t : TypeId) (places : Array (Nat × Nat)) : Prop where
  is : ∃ fs, P.underlying t = some (.struct fs) ∧ ∀ w, (placesOf fs).run P w = .ok places w
def oppsAny (l : Fr) : List (Nat × Operand) → Option (List (Nat × Value))
  | [] => some []
  | (j, x) :: ps => match opv l x, oppsAny l ps with
    | some v, some vs => some ((j, v) :: vs)
    | _, _ => none
theorem oppsAny_map {a : Act} {N : FN} {l : Fr} (K : Know a N l) : ∀ {ps : List (Nat × Operand)} {vs : List (Nat × Value)}, oppsAny l ps = some vs → ps.map (fun p => (p.1, a.eval p.2)) = vs
  | [], vs, h => by simp only [oppsAny, Option.some.injEq] at h; subst h; rfl
  | (j, x) :: ps, vs, h => by
    simp only [oppsAny] at h
    split at h
    · rename_i v vs' h1 h2
      simp only [Option.some.injEq] at h
      subst h
      simp [K.eval h1, oppsAny_map K h2]
    · cases h
theorem fill_nil {place : Nat → Option (Nat × Nat)} {cells : Array Value} : Instr.fill place cells [] = some cells := rfl
theorem fill_cons {place : Nat → Option (Nat × Nat)} {zs cells' out : List Value} {j off sz : Nat} {v : Value} {ps : List (Nat × Value)} (hp : place j = some (off, sz)) (hs : v.cells.size = sz) (hle : Nat.ble (off + sz) zs.length = true)
    (hc : zs.take off ++ v.cells.toList ++ zs.drop (off + sz) = cells') (h : Instr.fill place cells'.toArray ps = some out.toArray) : Instr.fill place zs.toArray ((j, v) :: ps) = some out.toArray := by
  have hle' := Nat.le_of_ble_eq_true hle
  simp only [Instr.fill, hp]
  rw [if_neg (by simp [hs]; omega)]
  have hseg := setSeg off v.cells.toList 0 zs.toArray (by simp [hs]; omega)
  have hz : (v.cells.zipIdx.foldl (fun cs (p : Value × Nat) => cs.setIfInBounds (off + p.2) p.1) zs.toArray) = cells'.toArray := by
    apply Array.toList_inj.1
    rw [← Array.foldl_toList, Array.toList_zipIdx]
    simpa [hs, hc] using hseg
  rw [hz]
  exact h
theorem o_build {t : TypeId} {parts : Array (Nat × Operand)} {places : Array (Nat × Nat)} {z : Value} {s b : Nat} {vps : List (Nat × Value)} {cells : Array Value} (hd : Nat.ble (d + 1) N = true) (hst : StructP P t places) (hz : TI P t z s b) (hp : oppsAny l parts.toList = some vps)
    (hf : Instr.fill (places[·]?) z.cells vps = some cells) (h : WL P ops Q rest N ((d, .agg cells) :: l) W L) : WL P ops Q (⟨some d, .build t parts, ty, pos, af, none⟩ :: rest) N l W L :=
  o_val hd (fun a w K S => by
    obtain ⟨fs, hu, hpl⟩ := hst.is
    have hps : (parts.map fun (p : Nat × Operand) => (p.1, a.eval p.2)).toList = vps := by
      have := oppsAny_map K hp
      simpa using this
    have hb : (Instr.build t (parts.map fun (p : Nat × Operand) => (p.1, a.eval p.2))).run P w = .ok (.agg cells) w := by
      unfold Instr.build
      rw [Sem.run_bind, run_zeroValue' hz, Result.andThen_ok]
      dsimp only
      rw [Sem.run_bind, run_underlying hu, Result.andThen_ok]
      dsimp only
      rw [Sem.run_bind]
      have := hpl w
      unfold placesOf at this
      rw [this, Result.andThen_ok, hps, hf]
      rfl
    simp only [execOp]
    rw [Sem.run_bind]
    first
      | (rw [hb]; rfl)
      | (erw [hb]; rfl)) h
/-- A piece of a list. -/
def sub {α : Type} (xs : List α) (l h : Nat) : List α := (xs.take h).drop l
end
end
section
set_option linter.unusedVariables false
set_option linter.unusedSimpArgs false
open Go.RowKit
section
variable {P : Program} {N : FN} {l : Fr} {W : World} {L L0 : List Res} {Q : Exit → Act → World → Prop} {ops : Array Oper} {rest : List Oper}
variable {d : Nat} {ty : TypeId} {pos : String} {af : Array Edge} {κ β : Type} {kv : κ → Value} {vv : β → Value} {k : Nat} {D : List (κ × β)}
theorem v_move {x : Operand} {v : Value} (hd : Nat.ble (d + 1) N = true) (hx : opv l x = some v) :
    OV P N l W L ⟨some d, .move x, ty, pos, af, none⟩ (v) := (fun a w K _ => by simp [execOp, K.eval hx])
theorem v_assign {x : Operand} {v : Value} (hd : Nat.ble (d + 1) N = true) (hx : opv l x = some v) :
    OV P N l W L ⟨some d, .assign x, ty, pos, af, none⟩ (v) := (fun a w K _ => by simp [execOp, K.eval hx])
theorem v_pick_true {c x y : Operand} {v : Value} (hd : Nat.ble (d + 1) N = true) (hc : opv l c = some (.bool true)) (hx : opv l x = some v) :
    OV P N l W L ⟨some d, .pick c x y, ty, pos, af, none⟩ (v) := (fun a w K _ => by simp [execOp, K.eval hx, K.eval hc, asBool])
theorem v_pick_false {c x y : Operand} {v : Value} (hd : Nat.ble (d + 1) N = true) (hc : opv l c = some (.bool false)) (hy : opv l y = some v) :
    OV P N l W L ⟨some d, .pick c x y, ty, pos, af, none⟩ (v) := (fun a w K _ => by simp [execOp, K.eval hy, K.eval hc, asBool])
theorem v_nil {x : Operand} {p : Addr} (hd : Nat.ble (d + 1) N = true) (hx : opv l x = some (.pointer (some p))) :
    OV P N l W L ⟨some d, .nilCheck x, ty, pos, af, none⟩ (.pointer (some p)) := (fun a w K _ => by simp [execOp, K.eval hx])
theorem v_bin {op : BinOp} {t yt : TypeId} {x y : Operand} {a b r : Value} (hd : Nat.ble (d + 1) N = true) (hx : opv l x = some a) (hy : opv l y = some b) (hr : BinV P op t x y a b r) :
    OV P N l W L ⟨some d, .binOp op t x y yt, ty, pos, af, none⟩ (r) := (fun a w K _ => by
    have := hr w
    rw [Sem.run_bind] at this
    simp only [execOp, K.eval hx, K.eval hy]
    rw [Sem.run_bind, Sem.run_bind, this]
    rfl)
theorem v_not {t : TypeId} {x : Operand} {b : Bool} (hd : Nat.ble (d + 1) N = true) (hx : opv l x = some (.bool b)) :
    OV P N l W L ⟨some d, .unOp .not t x, ty, pos, af, none⟩ (.bool (!b)) := (fun a w K _ => by simp [execOp, K.eval hx, Op.unary])
theorem v_extract {x : Operand} {vs : Array Value} {i : Nat} {v : Value} (hd : Nat.ble (d + 1) N = true) (hx : opv l x = some (.tuple vs)) (hv : vs[i]? = some v) :
    OV P N l W L ⟨some d, .extract x i, ty, pos, af, none⟩ (v) := (fun a w K _ => by simp [execOp, K.eval hx, Instr.extract, hv])
theorem v_fieldAddr {t : TypeId} {x : Operand} {i : Nat} {p q : Addr} {fs : Array Field} {f : Field} {z : Value} {s b : Nat} (hd : Nat.ble (d + 1) N = true) (hx : opv l x = some (.pointer (some p))) (ht : P.underlying t = some (.struct fs)) (hf : fs[i]? = some f)
    (hi : TI P f.type z (s + 1) b) (hp : p.add f.offset = q) :
    OV P N l W L ⟨some d, .fieldAddr t x i, ty, pos, af, none⟩ (.pointer (some q)) := (fun a w K _ => by simp [execOp, K.eval hx, Instr.fieldAt, run_underlying ht, hf, Instr.sureAddr, fieldPlace, run_sizeOf' hi, hp])
theorem v_load1 {t : TypeId} {x : Operand} {p : Addr} {td : TypeDesc} {v : Value} (hd : Nat.ble (d + 1) N = true) (hx : opv l x = some (.pointer (some p))) (hu : P.underlying t = some td) (ha : aggD td = false) (hr : Rd W L p v) :
    OV P N l W L ⟨some d, .load t x, ty, pos, af, none⟩ (v) := (fun a w K S => by simp [execOp, K.eval hx, Instr.loadAt, Instr.sureAddr, loadVar, run_isAgg hu, ha, hr w S])
theorem v_loadn {t : TypeId} {x : Operand} {p : Addr} {td : TypeDesc} {z : Value} {b : Nat} {vs : List Value} (hd : Nat.ble (d + 1) N = true) (hx : opv l x = some (.pointer (some p))) (hu : P.underlying t = some td) (ha : aggD td = true) (hi : TI P t z vs.length b) (hr : RdN W L p vs) :
    OV P N l W L ⟨some d, .load t x, ty, pos, af, none⟩ (.agg vs.toArray) := (fun a w K S => by
    have := run_loadCells_list (P := P) w p vs (hr w S)
    simp [execOp, K.eval hx, Instr.loadAt, Instr.sureAddr, loadVar, run_isAgg hu, ha, run_sizeOf' hi, this])
theorem v_indexK {α : Type} {e : Enc α} {t : TypeId} {x y : Operand} {a : Option Addr} {ad : Addr} {n c : Nat} {k : IntKind} {q : Int} (ok : EncOk P e) (ea : a = some ad) (hd : Nat.ble (d + 1) N = true) (hx : opv l x = some (.slice a n c)) (hy : opv l y = some (.int k q)) (ht : P.underlying t = some (.slice e.T))
    (h0 : 0 ≤ q) (h1 : q < n) :
    OV P N l W L ⟨some d, .indexAddr t x y, ty, pos, af, none⟩ (.pointer (some (ad.add (q.toNat * e.sz)))) := (fun b w K S => by
    subst ea
    simp [execOp, K.eval hx, K.eval hy, Instr.indexAt, asIntOf, run_underlying ht, h0, h1, run_sizeOf' ok.ti])
theorem v_lookupD [DecidableEq κ] {t Tk Te : TypeId} {x y : Operand} {s b : Nat} {q : κ} {b0 : β} (i : Nat) (hL : L[i]? = some (mapR kv vv k D)) (ko : KeyOk P Tk kv) (hd : Nat.ble (d + 1) N = true) (hx : opv l x = some (.map (some k))) (hy : opv l y = some (kv q)) (ht : P.underlying t = some (.map Tk Te)) (hz : TI P Te (vv b0) s b) :
    OV P N l W L ⟨some d, .lookup t x y false, ty, pos, af, none⟩ (vv ((mget D q).getD b0)) := (fun a w K S => by
    obtain ⟨L', S'⟩ := mem_idx i hL S
    have := run_lookup ko ht hz q false S'
    have h9 : ((mget D q).map vv).getD (vv b0) = vv ((mget D q).getD b0) := by cases mget D q <;> rfl
    rw [h9] at this
    simp [execOp, K.eval hx, K.eval hy, this])
end
end
section
set_option linter.unusedVariables false
set_option linter.unusedSimpArgs false
open Go.RowKit
def noDef (o : Oper) : Bool := match o.op with | .defer _ => false | _ => true
theorem semAt_nd {ro : Option Nat} {ρ : Operand → Value} {o : Oper} (h : noDef o = true) : o.semAt ro ρ = execOp ρ o :=
  Oper.semAt_eq _ _ _ fun c e => by simp [noDef, e] at h
def NoPan (Q : Exit → Act → World → Prop) : Exit → Act → World → Prop
  | .panic _, _, _ => False
  | e, a, w => Q e a w
theorem NoPan.imp {Q : Exit → Act → World → Prop} : ∀ (e : Exit) (a : Act) (w : World), NoPan Q e a w → Q e a w := fun e a w h => by
  cases e <;> first | exact h | exact (h : False).elim
section
variable {P : Program} {ops : Array Oper} {Q : Exit → Act → World → Prop} {md : Region.Mode} {S : World → Prop} {ro : Option Nat}
theorem YieldsIf.wpOpI {i : Nat} {o : Oper} {v : Value} {a : Act} (hi : ops[i]? = some o) (hnd : noDef o = true) (hy : YieldsIf P ops S o v a)
    {K : Act → World → Prop} {w : World} (hS : S w) (h : K (a.put o.dst v) w) : wpOpIn (fen ro) 0 P ops Q i K a w := by
  unfold Go.wpOpIn
  simp only [hi]
  rcases hy with ⟨hw, hv⟩ | ⟨hw, rfl⟩
  · simp only [hw, if_true, Oper.wpIn, semAt_nd hnd, hv w hS, Oper.uponIn]; exact ⟨fun _ _ => trivial, h⟩
  · simp only [hw, Bool.false_eq_true, if_false]; exact ⟨fun _ _ => trivial, h⟩
theorem wpOpI_put {j : Nat} {oi oj : Oper} {v : Value} (hj : ops[j]? = some oj) (hnd : noDef oj = true) (hap : oi.apart ops oj = true)
    (hsi : ∀ cs b, oi.op ≠ .select cs b) (hsj : ∀ cs b, oj.op ≠ .select cs b)
    (hQ : ∀ c a w, Q (.panic c) (a.put oi.dst v) w → Q (.panic c) a w) {K : Act → World → Prop} {a : Act} {w : World}
    (hy : YieldsIf P ops S oi v a) (h : wpOpIn (fen ro) 0 P ops Q j K (a.put oi.dst v) w) :
    wpOpIn (fen ro) 0 P ops Q j (fun a' w' => YieldsIf P ops S oi v a' ∧ K (a'.put oi.dst v) w') a w := by
  obtain ⟨h1, h2, h3⟩ := Oper.apart_spec hap
  have keep : ∀ (a : Act), YieldsIf P ops S oi v a → ∀ u, YieldsIf P ops S oi v (a.put oj.dst u) := fun a hy u =>
    hy.of_same (execOp_put oi hsi a oj.dst u h3) (wanted_put oi a oj.dst u h3)
  have keepD : ∀ d, YieldsIf P ops S oi v { a with defers := d :: a.defers } := fun d => hy.of_same rfl rfl
  unfold wpOpIn at *
  simp only [hj] at *
  rw [wanted_put oj a oi.dst v h1] at h
  split
  · rename_i hw
    simp only [hw, if_true] at h
    unfold Oper.wpIn at *
    refine ⟨fun _ _ => trivial, ?_⟩
    have h := h.2
    rw [semAt_nd hnd, execOp_put oj hsj a oi.dst v h1] at h
    rw [semAt_nd hnd]
    generalize (execOp a.eval oj).run P w = r at *
    cases r with
    | ok x w' =>
      cases x <;> simp only [Oper.uponIn] at h ⊢
      case value u => exact ⟨keep a hy u, by rw [← Act.put_comm a v u h2]; exact h⟩
      case skip => exact ⟨keep a hy _, by rw [← Act.put_comm a v undef h2]; exact h⟩
      case defer d =>
        refine ⟨keep _ (keepD d) _, ?_⟩
        rw [← Act.put_comm _ v undef h2, ← Act.put_defers]
        exact h
      case enter f args =>
        refine ⟨h.1, CallsIn.mono h.2 fun e w'' he => ?_⟩
        cases e with
        | returned u => exact ⟨keep a hy u, by rw [← Act.put_comm a v u h2]; exact he⟩
        | panicked c => exact hQ _ _ _ he
        | outgrown => exact he
      case row row args => exact ⟨h.1, RowsIn.mono h.2 fun u w'' he => ⟨keep a hy u, by rw [← Act.put_comm a v u h2]; exact he⟩⟩
      case round l f tmps assign body =>
        refine ⟨h.1, RoundIn.mono h.2 fun e w'' he => ?_⟩
        cases e with
        | returned u => exact ⟨keep a hy u, by rw [← Act.put_comm a v u h2]; exact he⟩
        | panicked c => exact hQ _ _ _ he
        | outgrown => exact he
    | halt x w' =>
      cases x <;> simp only [Oper.uponIn] at h ⊢
      case panic u => exact hQ _ _ _ h
  · rename_i hw
    simp only [hw] at h
    exact ⟨fun _ _ => trivial, keep a hy _, by rw [← Act.put_comm a v undef h2]; exact h.2⟩
def wpAnyI (ro : Option Nat) (P : Program) (md : Region.Mode) (ops : Array Oper) (Q : Exit → Act → World → Prop) (S : World → Prop) : Nat → Array Bool → Act → World → Prop
  | 0, listed, a, w => Region.ready md ops listed = [] ∧ Q .normal a w
  | fuel + 1, listed, a, w =>
    (Region.ready md ops listed = [] → Q .normal a w) ∧
    ∀ i ∈ Region.ready md ops listed, wpOpIn (fen ro) 0 P ops Q i (fun a' w' => S w' ∧ wpAnyI ro P md ops Q S fuel (listed.setIfInBounds i true) a' w') a w
theorem wpAny_of_I : ∀ (fuel : Nat) (listed : Array Bool) (a : Act) (w : World), wpAnyI ro P md ops Q S fuel listed a w → wpAnyIn (fen ro) 0 P md ops Q fuel listed a w
  | 0, _, _, _, h => h
  | fuel + 1, _, _, _, h => ⟨h.1, fun i hi => wpOpIn_mono (fun a' w' h' => wpAny_of_I fuel _ a' w' h'.2) (h.2 i hi)⟩
theorem wpAnyI_weak {S' : World → Prop} (hS : ∀ w, S' w → S w) : ∀ (fuel : Nat) (listed : Array Bool) (a : Act) (w : World), wpAnyI ro P md ops Q S' fuel listed a w → wpAnyI ro P md ops Q S fuel listed a w
  | 0, _, _, _, h => h
  | fuel + 1, _, _, _, h => ⟨h.1, fun i hi => wpOpIn_mono (fun a' w' h' => ⟨hS _ h'.1, wpAnyI_weak hS fuel _ a' w' h'.2⟩) (h.2 i hi)⟩
theorem wpAnyI_first {i : Nat} {oi : Oper} {v : Value} (hi : ops[i]? = some oi) (hnd : ∀ (j : Nat) (o : Oper), ops[j]? = some o → noDef o = true) (hsel : ∀ (j : Nat) (o : Oper) cs b, ops[j]? = some o → o.op ≠ .select cs b)
    (hQ : ∀ c a w, Q (.panic c) (a.put oi.dst v) w → Q (.panic c) a w) :
    ∀ (fuel : Nat) (listed : Array Bool) (a : Act) (w : World),
      (∀ j oj, ops[j]? = some oj → j ≠ i → listed.getD j true = false → (∀ e ∈ oj.after, Region.binds md e = true → e.on ≠ i) → oi.apart ops oj = true) →
      i ∈ Region.ready md ops listed → YieldsIf P ops S oi v a → S w →
      wpAnyI ro P md ops Q S fuel (listed.setIfInBounds i true) (a.put oi.dst v) w → wpAnyI ro P md ops Q S (fuel + 1) listed a w := by
  intro fuel
  induction fuel with
  | zero =>
    intro listed a w _ hr hy hS H
    refine ⟨fun h => (by rw [h] at hr; cases hr), fun j hj => ?_⟩
    by_cases hji : j = i
    · subst hji; exact YieldsIf.wpOpI hi (hnd _ _ hi) hy hS ⟨hS, H⟩
    · have := ready_mono hj hji
      rw [H.1] at this
      cases this
  | succ fuel ih =>
    intro listed a w hfree hr hy hS H
    refine ⟨fun h => (by rw [h] at hr; cases hr), fun j hj => ?_⟩
    by_cases hji : j = i
    · subst hji; exact YieldsIf.wpOpI hi (hnd _ _ hi) hy hS ⟨hS, H⟩
    · have h1 := H.2 j (ready_mono hj hji)
      obtain ⟨hjun, oj, hoj, hall⟩ := mem_ready.1 hj
      have hnot : ∀ e ∈ oj.after, Region.binds md e = true → e.on ≠ i := fun e he hb heq => by
        have h1 := hall e he hb
        have h0 := (mem_ready.1 hr).1
        rw [heq] at h1
        rcases Nat.lt_or_ge i listed.size with h' | h'
        · simp [h'] at h0 h1; rw [h0] at h1; cases h1
        · simp [Array.getElem?_eq_none h'] at h1
      have h2 := wpOpI_put hoj (hnd _ _ hoj) (hfree j oj hoj hji hjun hnot) (fun cs b => hsel i oi cs b hi) (fun cs b => hsel j oj cs b hoj) hQ hy h1
      have hfree' : ∀ k ok, ops[k]? = some ok → k ≠ i → (listed.setIfInBounds j true).getD k true = false →
          (∀ e ∈ ok.after, Region.binds md e = true → e.on ≠ i) → oi.apart ops ok = true := fun k ok hk hki hun hno => by
        refine hfree k ok hk hki ?_ hno
        by_cases hjk : j = k
        · subst hjk; exact hjun
        · rw [getD_set_ne true hjk] at hun; exact hun
      refine wpOpIn_mono (fun a' w' h3 => ⟨h3.2.1, ih (listed.setIfInBounds j true) a' w' hfree' (ready_mono hr (Ne.symm hji)) h3.1 h3.2.1 ?_⟩) h2
      rw [Array.setIfInBounds_comm _ _ hji]
      exact h3.2.2
theorem allNoDef {l : Array Oper} (h : l.toList.all noDef = true) : ∀ (j : Nat) (o : Oper), l[j]? = some o → noDef o = true := fun j o hj => by
  have h1 := List.all_eq_true.1 h o
  exact h1 (List.mem_of_getElem? (by simpa using hj))
theorem wpAnyI_take {i : Nat} {oi : Oper} {v : Value} {fuel : Nat} {listed : Array Bool} {a : Act} {w : World} (hnd : ops.toList.all noDef = true) (hi : ops[i]? = some oi)
    (hs : Region.noSelect ops = true) (hf : Region.free md ops listed i = true) (hr : (Region.ready md ops listed).contains i = true)
    (hQ : ∀ c a w, Q (.panic c) (a.put oi.dst v) w → Q (.panic c) a w) (hy : YieldsIf P ops S oi v a) (hS : S w)
    (h : wpAnyI ro P md ops Q S fuel (listed.setIfInBounds i true) (a.put oi.dst v) w) : wpAnyI ro P md ops Q S (fuel + 1) listed a w :=
  wpAnyI_first hi (allNoDef hnd) (Region.noSelect_spec hs) hQ fuel listed a w (Region.free_spec hi hf) (by simpa using hr) hy hS h
theorem wpAnyI_done {listed : Array Bool} {a : Act} {w : World} (hr : Region.ready md ops listed = []) (h : Q .normal a w) :
    ∀ fuel, wpAnyI ro P md ops Q S fuel listed a w
  | 0 => ⟨hr, h⟩
  | _ + 1 => ⟨fun _ => h, by rw [hr]; simp⟩
end
end
section
set_option linter.unusedVariables false
set_option linter.unusedSimpArgs false
open Go.RowKit
section
variable {P : Program} {N : FN} {l : Fr} {W : World} {L L' : List Res} {Q : Exit → Act → World → Prop} {ops : Array Oper}
/-- What is held throughout the region: these resources, ahead of whatever others. -/
def HS (W : World) (Bs : List Res) (w : World) : Prop := ∃ L0, Sat W w (Bs ++ L0)
def WH (P : Program) (ops : Array Oper) (Q : Exit → Act → World → Prop) (Bs : List Res) (fuel : Nat) (listed : Array Bool) (N : FN) (l : Fr) (W : World) (L : List Res) : Prop :=
  ∀ a w, Know a N l → Sat W w (Bs ++ L) → wpAnyI N.ro P .any ops (NoPan Q) (HS W Bs) fuel listed a w
def HQ (ro : Option Nat) (P : Program) (ops : Array Oper) (Q : Exit → Act → World → Prop) (Bs : List Res) (fuel : Nat) (listed : Array Bool) (W : World) : Exit → Act → World → Prop
  | .normal, a, w => HS W Bs w ∧ wpAnyI ro P .any ops (NoPan Q) (HS W Bs) fuel listed a w
  | e, a, w => NoPan Q e a w
theorem c_held {id : Nat} {ops : List Oper} (Bs : List Res) {L1 : List Res} (hm : P.follows .mixedOrders = true) (hL : Bs ++ L1 = L)
    (h : WH P ops.toArray Q Bs ops.length (Array.replicate ops.length false) N l W L1) : WC P (.region id ops.toArray true) Q N l W L := fun a w K S => by
  refine wpIn_mono (wpIn_region_any hm (wpAny_of_I (S := HS W Bs) _ _ _ _ ?_)) NoPan.imp
  have := h a { w with drawn := w.drawn + 1 } K (by rw [hL]; exact S.drew)
  simpa using this
theorem c_heldF {id : Nat} {ops : List Oper} (L1 Bs : List Res) (hm : P.follows .mixedOrders = true) (h : WH P ops.toArray Q Bs ops.length (Array.replicate ops.length false) N l W L1) : WC P (.region id ops.toArray true) Q N l W (L1 ++ Bs) := fun a w K S =>
  c_held Bs hm rfl h a w K (S.perm List.perm_append_comm)
theorem h_done {Bs : List Res} {fuel : Nat} {listed : Array Bool} (hr : Region.ready .any ops listed = []) (h : WQ Q .normal N l W (Bs ++ L)) : WH P ops Q Bs fuel listed N l W L := fun a w K S =>
  wpAnyI_done (Q := NoPan Q) hr (show NoPan Q .normal a w from h a w K S) fuel
theorem h_take {Bs : List Res} {fuel : Nat} {listed : Array Bool} (i : Nat) {d : Nat} {op : Op} {ty : TypeId} {pos : String} {af : Array Edge} {v : Value} (hi : ops[i]? = some ⟨some d, op, ty, pos, af, none⟩) (hd : Nat.ble (d + 1) N = true)
    (hs : (Region.noSelect ops && ops.toList.all noDef) = true) (hf : Region.free .any ops listed i = true) (hr : (Region.ready .any ops listed).contains i = true) (hv : ∀ L0, OV P N l W (Bs ++ L0) ⟨some d, op, ty, pos, af, none⟩ v)
    (h : WH P ops Q Bs fuel (listed.setIfInBounds i true) N ((d, v) :: l) W L) : WH P ops Q Bs (fuel + 1) listed N l W L := fun a w K S =>
  wpAnyI_take (by simp only [Bool.and_eq_true] at hs; exact hs.2) hi (by simp only [Bool.and_eq_true] at hs; exact hs.1) hf hr (fun c a w hp => hp.elim) (.inl ⟨by simp [Region.wanted], fun w' ⟨L0, S'⟩ => hv L0 a w' K S'⟩) ⟨L, S⟩ (h _ w (K.put hd v) S)
theorem h_take_yes {Bs : List Res} {fuel : Nat} {listed : Array Bool} (i : Nat) {d j dj : Nat} {b : Bool} {op : Op} {ty : TypeId} {pos : String} {af : Array Edge} {v : Value} (hi : ops[i]? = some ⟨some d, op, ty, pos, af, some (j, b)⟩) (hd : Nat.ble (d + 1) N = true)
    (hj : (ops[j]?).bind (·.dst) = some dj) (hg : lk l dj = some (.bool b)) (hdj : Nat.ble (dj + 1) N = true)
    (hs : (Region.noSelect ops && ops.toList.all noDef) = true) (hf : Region.free .any ops listed i = true) (hr : (Region.ready .any ops listed).contains i = true) (hv : ∀ L0, OV P N l W (Bs ++ L0) ⟨some d, op, ty, pos, af, none⟩ v)
    (h : WH P ops Q Bs fuel (listed.setIfInBounds i true) N ((d, v) :: l) W L) : WH P ops Q Bs (fuel + 1) listed N l W L := fun a w K S => by
  have hd' : dj < a.tmps.size := by rw [K.size]; exact Nat.le_of_ble_eq_true hdj
  have hy : yielded ops a.tmps j = some b := by
    have := K.val dj _ hg
    simp only [yielded, hj, Option.bind_some]
    rw [Array.getD_eq_getD_getElem?, Array.getElem?_eq_getElem hd'] at this
    rw [Array.getElem?_eq_getElem hd']
    simp only [Option.getD_some] at this
    rw [this]
  exact wpAnyI_take (by simp only [Bool.and_eq_true] at hs; exact hs.2) hi (by simp only [Bool.and_eq_true] at hs; exact hs.1) hf hr (fun c a w hp => hp.elim) (.inl ⟨by simp [Region.wanted, hy], fun w' ⟨L0, S'⟩ => hv L0 a w' K S'⟩) ⟨L, S⟩ (h _ w (K.put hd v) S)
/-- An operation that turns the world. -/
theorem h_core {Bs : List Res} {fuel : Nat} {listed : Array Bool} (i : Nat) {o : Oper} (hi : ops[i]? = some o)
    (h : WL P ops (HQ N.ro P ops Q Bs fuel (listed.setIfInBounds i true) W) [o] N l W (Bs ++ L)) (a : Act) (w : World) (K : Know a N l) (S : Sat W w (Bs ++ L)) :
    wpOpIn (fen N.ro) 0 P ops (NoPan Q) i (fun a' w' => HS W Bs w' ∧ wpAnyI N.ro P .any ops (NoPan Q) (HS W Bs) fuel (listed.setIfInBounds i true) a' w') a w := by
  have h1 := h a w K S
  unfold wpOpIn
  simp only [hi]
  unfold wpListIn at h1
  split at h1
  · rename_i hw
    rw [if_pos hw]
    refine ⟨h1.1, ?_⟩
    have h2 := h1.2
    generalize (o.semAt (fen N.ro).round a.eval).run P w = r at *
    cases r with
    | ok n w' =>
      cases n with
      | enter f args =>
        refine ⟨h2.1, CallsIn.mono h2.2 ?_⟩
        intro e w'' he
        cases e with
        | returned v => exact he
        | panicked c => exact he
        | outgrown => exact he
      | round l f tmps assign body =>
        refine ⟨h2.1, RoundIn.mono h2.2 ?_⟩
        intro e w'' he
        cases e with
        | returned v => exact he
        | panicked c => exact he
        | outgrown => exact he
      | row r args => exact ⟨h2.1, RowsIn.mono h2.2 fun v w'' hv => hv⟩
      | value v => exact h2
      | skip => exact h2
      | defer d => exact h2
      | _ => exact h2
    | halt x w' =>
      cases x <;> exact h2
  · rename_i hw
    rw [if_neg hw]
    exact h1
/-- .. where nothing else may come up. -/
theorem h_one {Bs : List Res} {fuel : Nat} {listed : Array Bool} (i : Nat) {o : Oper} (hi : ops[i]? = some o) (hr : Region.ready .any ops listed = [i])
    (h : WL P ops (HQ N.ro P ops Q Bs fuel (listed.setIfInBounds i true) W) [o] N l W (Bs ++ L)) : WH P ops Q Bs (fuel + 1) listed N l W L := fun a w K S => by
  refine ⟨fun h0 => (by rw [hr] at h0; cases h0), ?_⟩
  rw [hr]
  intro i' hi'
  simp only [List.mem_singleton] at hi'
  subst hi'
  exact h_core _ hi h a w K S
theorem forall_nil {p : Nat → Prop} : ∀ i ∈ ([] : List Nat), p i := fun i h => by cases h
theorem forall_cons {p : Nat → Prop} {i : Nat} {is : List Nat} (h : p i) (h' : ∀ j ∈ is, p j) : ∀ j ∈ i :: is, p j := List.forall_mem_cons.2 ⟨h, h'⟩
/-- .. where others may come up, too. -/
theorem h_many {Bs : List Res} {fuel : Nat} {listed : Array Bool} {is : List Nat} (hr : Region.ready .any ops listed = is) (hne : is ≠ [])
    (h : ∀ i ∈ is, ∃ o, ops[i]? = some o ∧ WL P ops (HQ N.ro P ops Q Bs fuel (listed.setIfInBounds i true) W) [o] N l W (Bs ++ L)) : WH P ops Q Bs (fuel + 1) listed N l W L := fun a w K S => by
  refine ⟨fun h0 => (by rw [hr] at h0; exact absurd h0 hne), ?_⟩
  rw [hr]
  intro i hi
  obtain ⟨o, ho, hw⟩ := h i hi
  exact h_core _ ho hw a w K S
theorem h_next {Bs : List Res} {fuel : Nat} {listed : Array Bool} (h : WH P ops Q Bs fuel listed N l W L) : WQ (HQ N.ro P ops Q Bs fuel listed W) .normal N l W (Bs ++ L) := fun a w K S => ⟨⟨L, S⟩, h a w K S⟩
theorem h_eq {Bs : List Res} {fuel : Nat} {listed : Array Bool} {t : Nat} {v v' : Value} (hx : lk l t = some v) (e : v = v') (h : WH P ops Q Bs fuel listed N ((t, v') :: l) W L) : WH P ops Q Bs fuel listed N l W L := fun a w K S =>
  h a w (K.sub (l' := (t, v') :: l) (fun s u hs => by
    rw [lk_cons] at hs
    split at hs
    · rename_i hts; subst hts; subst e; rw [hx]; exact hs
    · exact hs)) S
/-- From here on more is held. -/
theorem h_more {Bs : List Res} {fuel : Nat} {listed : Array Bool} (Bs1 : List Res) {L1 : List Res} (hL : Bs1 ++ L1 = L) (h : WH P ops Q (Bs ++ Bs1) fuel listed N l W L1) : WH P ops Q Bs fuel listed N l W L := fun a w K S => by
  subst hL
  refine wpAnyI_weak (S' := HS W (Bs ++ Bs1)) ?_ _ _ _ _ (h a w K (by rw [List.append_assoc]; exact S))
  rintro w' ⟨L0, S'⟩
  exact ⟨Bs1 ++ L0, by rw [List.append_assoc] at S'; exact S'⟩
end
end
section
set_option linter.unusedVariables false
set_option linter.unusedSimpArgs false
open Go.RowKit
theorem cellsOf_ti {P : Program} {t : TypeId} {z : Value} {s b : Nat} (h : TI P t z s b) : P.cellsOf t = s := by
  obtain ⟨i, hi, _, hs, _⟩ := h.get
  simp [Program.cellsOf, hi, hs]
structure Opens {α : Type} (P : Program) (W : World) (t : TypeId) (cells : α → List Value) (Good : α → Prop) : Prop where
  op : ∀ {H : Type} (enc : TypeId × Value → H) (fuel : Nat) (cs : List Value) (y : DataW H × List MemPlace), DataW.trod enc P W 0 (fun _ => true) true fuel t cs = some y → ∃ x : α, cs = cells x ∧ Good x
theorem opens_int {P : Program} {W : World} {t : TypeId} {k : IntKind} (ht : P.underlying t = some (.int k)) : Opens P W t (fun x : Int => [Value.int k x]) (fun x => (Lit.int k x).wf = true) where
  op := fun enc fuel cs y h => by
    cases fuel with
    | zero => cases h
    | succ n =>
      unfold DataW.trod at h
      rw [ht] at h
      cases cs with
      | nil => cases h
      | cons v cs =>
        cases cs with
        | cons u cs => cases v <;> simp at h
        | nil =>
          cases v <;> simp at h
          obtain ⟨⟨rfl, hw⟩, _⟩ := h
          exact ⟨_, rfl, hw⟩
theorem opens_str {P : Program} {W : World} {t : TypeId} (ht : P.underlying t = some .string) : Opens P W t (fun x : ByteArray => [Value.string x]) (fun x => x.size ≤ maxLen) where
  op := fun enc fuel cs y h => by
    cases fuel with
    | zero => cases h
    | succ n =>
      unfold DataW.trod at h
      rw [ht] at h
      cases cs with
      | nil => cases h
      | cons v cs =>
        cases cs with
        | cons u cs => cases v <;> simp at h
        | nil =>
          cases v <;> simp at h
          exact ⟨_, rfl, h.1⟩
theorem Opens.mono {α : Type} {P : Program} {W : World} {t : TypeId} {cells : α → List Value} {G G' : α → Prop} (h : Opens P W t cells G) (hg : ∀ x, G x → G' x) : Opens P W t cells G' where
  op := fun enc fuel cs y ht => let ⟨x, h1, h2⟩ := h.op enc fuel cs y ht; ⟨x, h1, hg x h2⟩
/-- A slice that came in. -/
structure Sl (α : Type) where
  a : Option Addr
  xs : List α
  c : Nat
def Sl.val {α : Type} (s : Sl α) : Value := .slice s.a s.xs.length s.c
structure SlGood {α : Type} (W : World) (e : Enc α) (G : α → Prop) (s : Sl α) : Prop where
  rd : SlR W e s.a s.xs
  le : s.xs.length ≤ s.c
  max : s.c ≤ maxLen
  all : ∀ x ∈ s.xs, G x
theorem flat_at {α : Type} {P : Program} {e : Enc α} (ok : EncOk P e) : ∀ {xs : List α} {j : Nat} {u : Value}, (flat e xs)[j]? = some u → ∃ (i : Nat) (x : α) (o : Nat), xs[i]? = some x ∧ (e.cells x)[o]? = some u ∧ j = i * e.sz + o
  | [], j, u, h => by simp [flat] at h
  | y :: ys, j, u, h => by
    have h0 : flat e (y :: ys) = e.cells y ++ flat e ys := rfl
    rw [h0] at h
    by_cases hj : j < (e.cells y).length
    · rw [List.getElem?_append_left hj] at h
      exact ⟨0, y, j, rfl, h, by omega⟩
    · rw [List.getElem?_append_right (by omega), ok.len] at h
      obtain ⟨i, x, o, h1, h2, h3⟩ := flat_at ok h
      rw [ok.len] at hj
      exact ⟨i + 1, x, o, by simpa using h1, h2, by rw [Nat.add_mul]; omega⟩
theorem mapM_get {α β : Type} (f : α → Option β) : ∀ (l : List α) (cs : List β), l.mapM f = some cs → ∀ (j : Nat) (u : β), cs[j]? = some u → ∃ i : α, l[j]? = some i ∧ f i = some u
  | [], cs, h, j, u, hj => by
    simp at h
    subst h
    cases hj
  | a :: l, cs, h, j, u, hj => by
    simp only [List.mapM_cons, Option.bind_eq_bind, Option.bind_eq_some_iff, Option.pure_def, Option.some.injEq] at h
    obtain ⟨b, hb, cs', hc, rfl⟩ := h
    cases j with
    | zero =>
      simp only [List.getElem?_cons_zero, Option.some.injEq] at hj
      subst hj
      exact ⟨a, rfl, hb⟩
    | succ j => exact mapM_get f l cs' hc j u (by simpa using hj)
theorem cells?_get {w : World} {base : Nat} {a : Addr} {n : Nat} {cs : List Value} (h : w.cells? base a n = some cs) : ∀ j u, cs[j]? = some u → w.cell? (a.add j) = some u := fun j u hj => by
  unfold World.cells? at h
  split at h
  · obtain ⟨i, h1, h2⟩ := mapM_get _ _ _ h j u hj
    have : i = j := by
      rw [List.getElem?_range] at h1
      · simpa using h1.symm
      · rcases Nat.lt_or_ge j n with h | h
        · exact h
        · rw [List.getElem?_eq_none (by simpa using h)] at h1; cases h1
    subst this
    exact h2
  · cases h
theorem exists_list {α : Type} {p : Nat → α → Prop} : ∀ (len : Nat), (∀ i, i < len → ∃ x, p i x) → ∃ xs : List α, xs.length = len ∧ ∀ i x, xs[i]? = some x → p i x
  | 0, _ => ⟨[], rfl, fun i x h => by cases h⟩
  | k + 1, hel => by
    obtain ⟨xs, hlen, hxs⟩ := exists_list k (fun i hi => hel i (by omega))
    obtain ⟨x, hx⟩ := hel k (by omega)
    refine ⟨xs ++ [x], by simp [hlen], fun i y hy => ?_⟩
    by_cases hi : i < xs.length
    · rw [List.getElem?_append_left hi] at hy
      exact hxs i y hy
    · rw [List.getElem?_append_right (by omega)] at hy
      have : i - xs.length = 0 := by
        rcases Nat.eq_zero_or_pos (i - xs.length) with h | h
        · exact h
        · rw [List.getElem?_eq_none (by simp; omega)] at hy; cases hy
      rw [this] at hy
      simp only [List.getElem?_cons_zero, Option.some.injEq] at hy
      subst hy
      have : i = k := by omega
      subst this
      exact hx
theorem opens_slice {α : Type} {P : Program} {W : World} {t : TypeId} {e : Enc α} {G : α → Prop} (ok : EncOk P e) (ht : P.underlying t = some (.slice e.T)) (ho : Opens P W e.T e.cells G) : Opens P W t (fun s : Sl α => [s.val]) (SlGood W e G) where
  op := fun enc fuel cs y h => by
    rcases Deep.open_slice ht h with ⟨rfl, _⟩ | ⟨a, len, cap, m, n, D, Pl, rfl, hb, hl, hm, hmm, _, hx⟩
    · exact ⟨⟨none, [], 0⟩, rfl, fun h0 => absurd rfl h0, Nat.zero_le _, Nat.zero_le _, fun x hx => by cases hx⟩
    · have hsz : P.cellsOf e.T = e.sz := by
        obtain ⟨i, hi, _, hs, _⟩ := ok.ti.get
        simp [Program.cellsOf, hi, hs]
      have hel : ∀ i, i < len → ∃ x : α, (∀ o u, (e.cells x)[o]? = some u → W.cell? (a.add (i * e.sz + o)) = some u) ∧ G x := fun i hi => by
        obtain ⟨cs', h1, h2⟩ := hx i (by rw [hmm]; split <;> omega)
        obtain ⟨x, rfl, hg⟩ := ho.op enc n cs' _ h2
        refine ⟨x, fun o u hu => ?_, hg⟩
        rw [hsz] at h1
        rw [← Addr.add_add']
        exact cells?_get h1 o u hu
      obtain ⟨xs, rfl, hxs⟩ := exists_list len hel
      refine ⟨⟨some a, xs, cap⟩, rfl, fun _ => ⟨a, rfl, fun j u hj => ?_⟩, hl, hm, fun x hx => ?_⟩
      · obtain ⟨i, x, o, h1, h2, rfl⟩ := flat_at ok hj
        exact (hxs i x h1).1 o u h2
      · obtain ⟨i, hi⟩ := List.getElem?_of_mem hx
        exact (hxs i x hi).2
theorem wf_i64 {x : Int} (h : (Lit.int .i64 x).wf = true) : -9223372036854775808 ≤ x ∧ x ≤ 9223372036854775807 := by
  simp [Lit.wf, IntKind.min, IntKind.max, IntKind.signed, IntKind.bits] at h; omega
theorem opens_u8 {P : Program} {W : World} {t : TypeId} (ht : P.underlying t = some (.int .u8)) : Opens P W t (fun x : UInt8 => [Value.int .u8 (x.toNat : Int)]) (fun _ => True) where
  op := fun enc fuel cs y h => by
    obtain ⟨x, rfl, g⟩ := (opens_int (W := W) ht).op enc fuel cs y h
    simp [Lit.wf, IntKind.min, IntKind.max, IntKind.signed, IntKind.bits] at g
    refine ⟨UInt8.ofNat x.toNat, ?_, trivial⟩
    have : ((UInt8.ofNat x.toNat).toNat : Int) = x := by simp; omega
    rw [this]
end
section
set_option linter.unusedVariables false
set_option linter.unusedSimpArgs false
open Go.RowKit
def obj {α : Type} (p : α → Prop) (A : α → List Res) : Res := sex fun x => star (pur (p x)) (stars (A x))
theorem Sat.flat {W w : World} {Ls L : List Res} (S : Sat W w (stars Ls :: L)) : Sat W w (Ls ++ L) := S.conv fun _ h => stars_append.2 h
theorem Sat.unflat {W w : World} {Ls L : List Res} (S : Sat W w (Ls ++ L)) : Sat W w (stars Ls :: L) := S.conv fun _ h => stars_append.1 h
theorem Sat.obj_open {α : Type} {p : α → Prop} {A : α → List Res} {W w : World} {L : List Res} (S : Sat W w (obj p A :: L)) : ∃ x, p x ∧ Sat W w (A x ++ L) := by
  obtain ⟨x, S⟩ := S.ex
  obtain ⟨hp, S⟩ := S.unpack.pur
  exact ⟨x, hp, S.flat⟩
theorem Sat.obj_mk {α : Type} {p : α → Prop} {A : α → List Res} {W w : World} {L : List Res} (x : α) (hp : p x) (S : Sat W w (A x ++ L)) : Sat W w (obj p A :: L) :=
  Sat.unex x (Sat.pack (Sat.unpur hp S.unflat))
section
variable {P : Program} {N : FN} {l : Fr} {W : World} {L : List Res} {Q : Exit → Act → World → Prop} {ops : Array Oper} {rest : List Oper} {α : Type} {p : α → Prop} {A : α → List Res}
theorem l_obj (h : ∀ x, p x → WL P ops Q rest N l W (A x ++ L)) : WL P ops Q rest N l W (obj p A :: L) := fun a w K S =>
  let ⟨x, hp, S'⟩ := S.obj_open; h x hp a w K S'
theorem c_obj {c : Code} (h : ∀ x, p x → WC P c Q N l W (A x ++ L)) : WC P c Q N l W (obj p A :: L) := fun a w K S =>
  let ⟨x, hp, S'⟩ := S.obj_open; h x hp a w K S'
end
section
variable {P : Program} {N : FN} {l : Fr} {W : World} {L L' L0 : List Res} {Q : Exit → Act → World → Prop}
/-- The round's body begins. -/
def postB (P : Program) (k : Nat) (body : Code) (R : Ending → World → Prop) : Exit → Act → World → Prop :=
  Exit.then (fun a₁ w₁ => ∃ w₂, (Instr.beginRound k).run P w₁ = .ok () w₂ ∧ body.wpIn (fen (some k)) 0 P (roundPost P k R) a₁ w₂) (fun _ _ _ => False)
abbrev postR (P : Program) (k : Nat) (W : World) (post : Value → List Res → Prop) : Exit → Act → World → Prop := roundPost P k fun e w' => ∃ v L', e = .returned v ∧ post v L' ∧ Sat W w' L'
theorem q_begin {k : Nat} {r : Loop} {body : Code} {R : Ending → World → Prop} (hk : N.ro = some k) (hr : r.state = .ready) (h : WC P body (roundPost P k R) N l W (blk k (.loop { r with state := .busy }) :: L)) :
    WQ (postB P k body R) .normal N l W (blk k (.loop r) :: L) := fun a w K S => by
  refine ⟨_, run_beginRound S.read.2 hr, ?_⟩
  have h1 := h a _ K (S.putObj (o' := .loop { r with state := .busy }))
  rw [hk] at h1
  exact h1
theorem q_roundOn {k : Nat} {r : Loop} {post : Value → List Res → Prop} (hp : post (.bool true) L') (hL : ∀ w, Sat W w (blk k (.loop { r with state := .ready, pending := none }) :: L) → Sat W w L') :
    WQ (postR P k W post) .normal N l W (blk k (.loop r) :: L) := fun a w K S => by
  have h1 := S.putObj (o' := .loop { r with state := .ready, pending := none })
  exact ⟨_, _, run_endRound none S.read.2, _, L', rfl, hp, hL _ h1⟩
/-- What yield is called with, as9 slots. -/
def putArgs : List Nat → List Value → Fr → Fr
  | t :: ts, v :: vs, l => putArgs ts vs ((t, v) :: l)
  | _, _, l => l
theorem know_putArgs : ∀ (ts : List Nat) (vs : List Value) {a : Act} {N : FN} {l : Fr}, Know a N l → ts.all (fun t => Nat.ble (t + 1) N.n) = true → ts.length = vs.length →
    Know { a with tmps := ((ts.zip vs).foldl (fun tmps (p : Nat × Value) => tmps.setIfInBounds p.1 p.2) a.tmps) } N (putArgs ts vs l)
  | [], vs, a, N, l, K, _, hl => by
    cases vs with
    | nil => simpa [putArgs] using K
    | cons v vs => cases hl
  | t :: ts, [], a, N, l, K, _, hl => by cases hl
  | t :: ts, v :: vs, a, N, l, K, ht, hl => by
    simp only [List.all_cons, Bool.and_eq_true] at ht
    have h1 := know_putArgs ts vs (a := a.put (some t) v) (N := N) (l := (t, v) :: l) (K.put ht.1 v) ht.2 (by simpa using hl)
    simpa [Act.put, putArgs] using h1
def resf (tmps : Array Value) (x : ResultVar) : Sem Value := match x with
  | .tmp t => pure (tmps.getD t undef)
  | .cell p t => do loadVar t (← asAddr (tmps.getD p undef))
def RS (P : Program) (N : FN) (l : Fr) (W : World) (L : List Res) (x : ResultVar) (v : Value) : Prop := ∀ a w, Know a N l → Sat W w L → (resf a.tmps x).run P w = .ok v w
theorem rs_tmp {t : Nat} {v : Value} (h : lk l t = some v) : RS P N l W L (.tmp t) v := fun a w K _ => by
  show (pure (a.tmps.getD t undef) : Sem Value).run P w = _
  rw [K.val t v h]; rfl
theorem rs_1 {fn : Func} {x : ResultVar} {v : Value} (h : fn.results = #[x]) (h1 : RS P N l W L x v) : ∀ a w, Know a N l → Sat W w L → (results fn a.tmps).run P w = .ok v w := fun a w K S => by
  have e1 := h1 a w K S
  show (do let vs ← fn.results.mapM (resf a.tmps); pure (if h : vs.size = 1 then vs[0] else .tuple vs) : Sem Value).run P w = _
  rw [h]
  simp [Sem.run_bind, e1]
theorem f_retMq {fn : Func} {post : Value → List Res → Prop} {v : Value} (rs : List Nat) {L0 : List Res} {e : Exit} (he : e = .ret ∨ e = .normal) (hdf : N.df = rs.map markD)
    (hL : ∀ w, Sat W w L → Sat W w (rs.map (fun r => blk r (.deferred (some []))) ++ L0)) (hr : ∀ a w, Know a N l → Sat W w L0 → (results fn a.tmps).run P w = .ok v w) (hq : ∀ w, Sat W w L0 → ∃ L', post v L' ∧ Sat W w L') :
    WQ (postC P fn W post) e N l W L := fun a w K S => by
  have key : ∀ (rs : List Nat) (w : World), Sat W w (rs.map (fun r => blk r (.deferred (some []))) ++ L0) → LeavesInM Fence.wide 0 P fn a.tmps (fun e w' => ∃ v L', e = .returned v ∧ post v L' ∧ Sat W w' L') (rs.map markD) .returning w := by
    intro rs
    induction rs with
    | nil => exact fun w S => let ⟨L', hp, S'⟩ := hq w S; ⟨v, hr a w K S, v, L', rfl, hp, S'⟩
    | cons r rs ih =>
      intro w S
      exact ⟨by simp, .inl ⟨r, _, rfl, run_takeDeferred S.read.2, ih _ (S.putObj (o' := .deferred none)).tail⟩⟩
  rcases he with rfl | rfl
  · show LeavesInM Fence.wide 0 P fn a.tmps _ a.defers .returning w
    rw [K.dfr, hdf]; exact key rs w (hL w S)
  · show LeavesInM Fence.wide 0 P fn a.tmps _ a.defers .returning w
    rw [K.dfr, hdf]; exact key rs w (hL w S)
end
end
section
set_option linter.unusedVariables false
set_option linter.unusedSimpArgs false
open Go.RowKit
theorem sameBits_self : ∀ (vs : List Value), (∀ v ∈ vs, Instr.sameBits 9999 v v = true) → Instr.sameBits 10000 (.agg vs.toArray) (.agg vs.toArray) = true := fun vs h => by
  have h1 : ∀ (us : List Value), (∀ v ∈ us, Instr.sameBits 9999 v v = true) → (us.zip us).all (fun p => Instr.sameBits 9999 p.1 p.2) = true := by
    intro us
    induction us with
    | nil => intro _; rfl
    | cons u us ih =>
      intro hu
      simp only [List.zip_cons_cons, List.all_cons, Bool.and_eq_true]
      exact ⟨hu u (by simp), ih fun v hv => hu v (by simp [hv])⟩
  have h2 := h1 vs h
  simp only [Instr.sameBits, beq_self_eq_true, Bool.true_and]
  exact h2
theorem keyOk_struct {α : Type} [DecidableEq α] {P : Program} {T : TypeId} {fs : Array Field} {e : Enc α} (hu : P.underlying T = some (.struct fs)) (hc : ∀ b x w, (Instr.checkKey b 10000 T (.agg (e.cells x).toArray)).run P w = .ok () w)
    (heq : ∀ x y w, (Op.equalIn 10000 T (.agg (e.cells x).toArray) (.agg (e.cells y).toArray)).run P w = .ok (decide (x = y)) w) (hb : ∀ x, ∀ v ∈ e.cells x, Instr.sameBits 9999 v v = true) : KeyOk P T (fun x : α => Value.agg (e.cells x).toArray) where
  check := fun b k w => hc b k w
  find := fun vv D es k w hes => by
    have ask : ∀ (D : List (α × _)) (es : List MapEntry) (i : Nat), es.map (fun e => (e.key, e.val)) = D.map (fun p => (Value.agg (e.cells p.1).toArray, vv p.2)) →
        (Instr.findAsking T (.agg (e.cells k).toArray) es i).run P w = .ok ((mat D k).map fun p => (p.1 + i, vv p.2)) w := by
      intro D
      induction D with
      | nil =>
        intro es i h
        cases es with
        | nil => simp [Instr.findAsking, mat]
        | cons e es => cases h
      | cons p D ih =>
        intro es i h
        cases es with
        | nil => cases h
        | cons e1 es =>
          obtain ⟨j, b⟩ := p
          simp only [List.map_cons, List.cons.injEq, Prod.mk.injEq] at h
          obtain ⟨⟨h1, h2⟩, h3⟩ := h
          have he := heq k j w
          simp only [Instr.findAsking, h1, Op.equal, Op.maxDepth, Sem.run_bind, he, Result.andThen_ok, mat]
          by_cases ekj : k = j
          · subst ekj
            simp [h2]
          · have e' : ¬ j = k := fun h => ekj h.symm
            rw [if_neg e']
            simp only [ekj, decide_false]
            have := ih es (i + 1) h3
            simp only [Bool.false_eq_true, if_false]
            rw [this, Option.map_map]
            congr 2
            funext p
            simp [Nat.add_comm, Nat.add_left_comm]
    simp only [Instr.findKey, Sem.run_bind, run_underlying hu, Result.andThen_ok]
    cases es with
    | nil =>
      cases D with
      | nil => simp [Instr.findNow, mat]
      | cons p D => cases hes
    | cons e1 es =>
      have hn : Instr.findNow (.struct fs) (.agg (e.cells k).toArray) (e1 :: es) 0 = none := by simp [Instr.findNow, Instr.sameNow]
      rw [hn]
      have := ask D (e1 :: es) 0 hes
      simpa using this
  bits := fun k => sameBits_self _ (hb k)
section
variable {κ β : Type} [DecidableEq κ]
/-- A map, one of whose entries (q's) was born at s. -/
def mapE (kv : κ → Value) (vv : β → Value) (k : Nat) (D : List (κ × β)) (q : κ) (s : Nat) : Res := fun h => ∃ es clock, Ents kv vv D es clock ∧ (∃ (i : Nat) (b : β) (x : MapEntry), mat D q = some (i, b) ∧ es[i]? = some x ∧ x.born = s) ∧ blk k (.map es clock) h
variable {P : Program} {N : FN} {l : Fr} {W : World} {L L0 : List Res} {Q : Exit → Act → World → Prop} {ops : Array Oper} {rest : List Oper}
variable {d : Nat} {ty : TypeId} {pos : String} {af : Array Edge} {kv : κ → Value} {vv : β → Value} {k : Nat} {D : List (κ × β)}
theorem Sat.mapE_mk {w : World} {es : Array MapEntry} {clock : Nat} {q : κ} {s i : Nat} {b : β} {x : MapEntry} (h : Ents kv vv D es clock) (h1 : mat D q = some (i, b)) (h2 : es[i]? = some x) (h3 : x.born = s) (S : Sat W w (blk k (.map es clock) :: L)) : Sat W w (mapE kv vv k D q s :: L) :=
  S.imp fun y hy => ⟨es, clock, h, ⟨i, b, x, h1, h2, h3⟩, hy⟩
theorem Sat.mapE_read {w : World} {q : κ} {s : Nat} (S : Sat W w (mapE kv vv k D q s :: L)) : ∃ es clock, Ents kv vv D es clock ∧ (∃ (i : Nat) (b : β) (x : MapEntry), mat D q = some (i, b) ∧ es[i]? = some x ∧ x.born = s) ∧ Sat W w (blk k (.map es clock) :: L) := by
  obtain ⟨y, ⟨x, b, hd, he, ⟨es, clock, h1, h2, h3⟩, hb⟩, hy⟩ := S.own
  exact ⟨es, clock, h1, h2, S.below, S.dr, y, ⟨x, b, hd, he, h3, hb⟩, hy⟩
theorem mat_set_self {q : κ} {i : Nat} {b0 b : β} (h : mat D q = some (i, b0)) : mat (D.set i (q, b)) q = some (i, b) := by
  induction D generalizing i with
  | nil => cases h
  | cons p D ih =>
    obtain ⟨j, c⟩ := p
    simp only [mat] at h
    split at h
    · rename_i e
      simp only [Option.some.injEq, Prod.mk.injEq] at h
      obtain ⟨rfl, rfl⟩ := h
      simp [mat]
    · rename_i e
      simp only [Option.map_eq_some_iff] at h
      obtain ⟨⟨i', b'⟩, h1, h2⟩ := h
      simp only [Prod.mk.injEq] at h2
      obtain ⟨rfl, rfl⟩ := h2
      rw [List.set_cons_succ]
      simp only [mat, e, if_false, ih h1, Option.map_some]
theorem mset_mset {q : κ} {b b' : β} : mset (mset D q b) q b' = mset D q b' := by
  cases hm : mat D q with
  | none =>
    have e1 : mset D q b = D ++ [(q, b)] := by unfold mset; rw [hm]
    have h2 : mat (D ++ [(q, b)]) q = some (D.length, b) := by rw [mat_append_none hm]; simp [mat]
    rw [e1]
    unfold mset
    rw [h2, hm]
    simp
  | some p =>
    obtain ⟨i, c⟩ := p
    have e1 : mset D q b = D.set i (q, b) := by unfold mset; rw [hm]
    rw [e1]
    unfold mset
    rw [mat_set_self hm, hm]
    simp
/-- 'm[q]' that is to be stored anew: the entry is there behind it. -/
theorem o_mapEntry {t Tk Te : TypeId} {x y : Operand} {q : κ} {b0 : β} {s b : Nat} (ko : KeyOk P Tk kv) (hd : Nat.ble (d + 1) N = true) (hx : opv l x = some (.map (some k))) (hy : opv l y = some (kv q)) (ht : P.underlying t = some (.map Tk Te)) (hz : TI P Te (vv b0) s b)
    (h : ∀ s : Nat, WL P ops Q rest N ((d, .tuple #[vv ((mget D q).getD b0), .int .i64 (s : Int)]) :: l) W (mapE kv vv k (mset D q ((mget D q).getD b0)) q s :: L)) :
    WL P ops Q (⟨some d, .mapEntry t x y, ty, pos, af, none⟩ :: rest) N l W (mapR kv vv k D :: L) :=
  o_runx (α := Nat) hd (vv := fun s => .tuple #[vv ((mget D q).getD b0), .int .i64 (s : Int)]) (LL := fun s => mapE kv vv k (mset D q ((mget D q).getD b0)) q s :: L) (fun a w K S => by
    obtain ⟨es, clock, he, S'⟩ := S.map_read
    have hr := S'.read.2
    have hf := ko.find vv D es.toList q w he.same
    have hc := ko.check false q w
    have hg : (getObj k).run P w = .ok (.map es clock) w := by simp [getObj, Sem.run, hr]
    cases hm : mat D q with
    | none =>
      have hmg : mget D q = none := by simp [mget, hm]
      rw [hm] at hf
      have hl : es.size = D.length := by
        have := congrArg List.length he.same
        simpa using this
      refine ⟨clock, _, ?_, (S'.put (o' := .map (es.push { key := kv q, val := vv b0, born := clock }) (clock + 1))).mapE_mk (by rw [hmg]; unfold mset; rw [hm]; exact ents_push he q b0) (i := D.length) (b := b0) (x := { key := kv q, val := vv b0, born := clock }) (by rw [hmg]; unfold mset; rw [hm]; simp only [Option.getD_none]; rw [mat_append_none hm]; simp [mat]) (by rw [← hl]; simp) rfl⟩
      simp only [execOp, K.eval hx, K.eval hy, Instr.mapEntry, Sem.run_bind, run_underlying ht, Result.andThen_ok, hg, hc, hf, Option.map_none, run_zeroValue' hz]
      rw [run_setObj_put hr rfl]
      simp [hmg, goInt]
    | some p =>
      obtain ⟨i, c⟩ := p
      have hmg : mget D q = some c := by simp [mget, hm]
      rw [hm] at hf
      have hD := mat_some hm
      have hj := congrArg (·[i]?) he.same
      simp only [List.getElem?_map, hD, Option.map_some] at hj
      obtain ⟨e0, hgi⟩ : ∃ e0, es[i]? = some e0 := by
        cases hgi : es.toList[i]? with
        | none => rw [hgi] at hj; cases hj
        | some e0 => rw [Array.getElem?_toList] at hgi; exact ⟨e0, hgi⟩
      have hkv : e0.key = kv q ∧ e0.val = vv c := by
        rw [← Array.getElem?_toList] at hgi
        rw [hgi] at hj
        simpa using hj
      have hset : D.set i (q, c) = D := by
        apply List.ext_getElem?
        intro j
        rw [List.getElem?_set]
        split
        · rename_i e; subst e; rw [hD, if_pos (List.getElem?_eq_some_iff.1 hD).1]
        · rfl
      have hes := ents_set he hm c
      refine ⟨e0.born, _, ?_, (S'.put (o' := .map (es.modify i fun e => { e with key := kv q }) clock)).mapE_mk (D := mset D q ((mget D q).getD b0)) (i := i) (b := c) (x := { e0 with key := kv q }) ?_ ?_ ?_ rfl⟩
      · have hk : ((es[i]?).map (·.key)).getD (kv q) = kv q := by rw [hgi]; simp [hkv.1]
        simp only [execOp, K.eval hx, K.eval hy, Instr.mapEntry, Sem.run_bind, run_underlying ht, Result.andThen_ok, hg, hc, hf, Option.map_some, hk, Instr.keyThatStays, ko.bits, if_true, Sem.run_pure]
        rw [run_setObj_put hr rfl]
        simp [hmg, goInt, hgi]
      · rw [hmg]; unfold mset; rw [hm]
        have e9 : (es.modify i fun e => { e with key := kv q }) = (es.modify i fun e => { e with key := kv q, val := vv c }) := by
          apply Array.ext_getElem?
          intro j
          rw [Array.getElem?_modify, Array.getElem?_modify]
          split
          · rename_i e; subst e
            rw [hgi]; simp [hkv.2]
          · rfl
        rw [e9]; exact hes
      · rw [hmg]; unfold mset; rw [hm]; simp only [Option.getD_some]; rw [hset]; exact hm
      · rw [Array.getElem?_modify, if_pos rfl, hgi]; rfl) h
theorem o_lookupE {t Tk Te : TypeId} {x y : Operand} {q q' : κ} {b0 : β} {s s' b : Nat} (i : Nat) (hL : L[i]? = some (mapE kv vv k D q' s')) (ko : KeyOk P Tk kv) (hd : Nat.ble (d + 1) N = true) (hx : opv l x = some (.map (some k))) (hy : opv l y = some (kv q)) (ht : P.underlying t = some (.map Tk Te)) (hz : TI P Te (vv b0) s b)
    (h : WL P ops Q rest N ((d, vv ((mget D q).getD b0)) :: l) W L) : WL P ops Q (⟨some d, .lookup t x y false, ty, pos, af, none⟩ :: rest) N l W L :=
  o_val hd (fun a w K S => by
    obtain ⟨L', S'⟩ := mem_idx i hL S
    obtain ⟨es, clock, he, _, S2⟩ := S'.mapE_read
    have := run_lookup ko ht hz q false (S2.map_mk he)
    have h9 : ((mget D q).map vv).getD (vv b0) = vv ((mget D q).getD b0) := by cases mget D q <;> rfl
    rw [h9] at this
    simp [execOp, K.eval hx, K.eval hy, this]) h
theorem o_entryStore {t : TypeId} {x y v : Operand} {q : κ} {s : Nat} {b : β} {b1 : β} (hx : opv l x = some (.map (some k))) (hy : opv l y = some (.int .i64 (s : Int))) (hv : opv l v = some (vv b))
    (h : WL P ops Q rest N l W (mapR kv vv k (mset D q b) :: L)) : WL P ops Q (⟨none, .entryStore t x y v, ty, pos, af, none⟩ :: rest) N l W (mapE kv vv k (mset D q b1) q s :: L) :=
  o_skip (fun a w K S => by
    obtain ⟨es, clock, he, ⟨i, c, e0, h1, h2, h3⟩, S'⟩ := S.mapE_read
    have hr := S'.read.2
    have hg : (getObj k).run P w = .ok (.map es clock) w := by simp [getObj, Sem.run, hr]
    have hes := ents_set he h1 b
    have hms : mset D q b = (mset D q b1).set i (q, b) := by
      rw [← mset_mset (b := b1)]
      show (match mat (mset D q b1) q with | some (i, _) => _ | none => _) = _
      rw [h1]
    have hkey : e0.key = kv q := by
      have hj := congrArg (·[i]?) he.same
      rw [← Array.getElem?_toList] at h2
      simp only [List.getElem?_map, mat_some h1, h2, Option.map_some, Option.some.injEq, Prod.mk.injEq] at hj
      exact hj.1
    have hfind : es.findIdx? (fun e => ((e.born : Int) == (s : Int))) = some i := by
      rw [Array.findIdx?_eq_some_iff_getElem]
      obtain ⟨hlt, he0⟩ := Array.getElem?_eq_some_iff.1 h2
      refine ⟨hlt, by rw [he0, h3]; simp, fun j hj => ?_⟩
      have hb := he.born
      rw [List.pairwise_iff_getElem] at hb
      have := hb j i (by simp; omega) (by simpa using hlt) hj
      simp only [List.getElem_map, Array.getElem_toList] at this
      rw [he0, h3] at this
      simp only [beq_iff_eq]
      omega
    refine ⟨_, ?_, (S'.put (o' := .map (es.modify i fun e => { e with val := vv b }) clock)).map_mk (D := mset D q b) ?_⟩
    · simp only [execOp, K.eval hx, K.eval hy, K.eval hv, Instr.entryStore, Sem.run_bind, Result.andThen_ok, hg, asInt, asIntOf, Sem.run_pure]
      rw [hfind]
      simp only []
      rw [run_setObj_put hr rfl]
      simp
    · rw [hms]
      have e9 : (es.modify i fun e => { e with val := vv b }) = (es.modify i fun e => { e with key := kv q, val := vv b }) := by
        apply Array.ext_getElem?
        intro j
        rw [Array.getElem?_modify, Array.getElem?_modify]
        split
        · rename_i e; subst e
          rw [h2]; simp [hkey]
        · rfl
      rw [e9]; exact hes) h
end
end
section
set_option linter.unusedVariables false
set_option linter.unusedSimpArgs false
open Go.RowKit
theorem Sat.stars_nil {W w : World} {L : List Res} (S : Sat W w L) : Sat W w (stars [] :: L) := Sat.unflat (Ls := []) S
section
variable {P : Program} {N : FN} {l : Fr} {W : World} {L : List Res} {Q : Exit → Act → World → Prop} {ops : Array Oper} {rest : List Oper} {d : Nat} {ty : TypeId} {pos : String} {af : Array Edge}
end
end
section
set_option linter.unusedVariables false
open Go.RowKit
theorem ti3 : TI Try.prog 3 (.int .i64 0) 1 8 := by unfold TI; kernel_rfl
theorem ti9 : TI Try.prog 9 (.string ByteArray.empty) 1 16 := by unfold TI; kernel_rfl
theorem ti5 : TI Try.prog 5 (.int .u8 0) 1 1 := by unfold TI; kernel_rfl
theorem ti2 : TI Try.prog 2 (.int .i64 0) 1 8 := by unfold TI; kernel_rfl
theorem ti28 : TI Try.prog 28 (.int .u64 0) 1 8 := by unfold TI; kernel_rfl
theorem ti30 : TI Try.prog 30 (.agg #[.int .i64 0, .int .u64 0, .int .u64 0]) 3 24 := by unfold TI; kernel_rfl
theorem ti32 : TI Try.prog 32 (.agg #[.int .i64 0, .int .u64 0, .int .u64 0, .int .i64 0]) 4 32 := by unfold TI; kernel_rfl
theorem ti36 : TI Try.prog 36 (.agg #[.int .i64 0, .slice none 0 0, .slice none 0 0, .slice none 0 0, .int .i64 0]) 5 88 := by unfold TI; kernel_rfl
theorem ti79 : TI Try.prog 79 (.agg #[.int .i64 0, .string ByteArray.empty, .slice none 0 0, .int .i64 0]) 4 56 := by unfold TI; kernel_rfl
theorem ti61 : TI Try.prog 61 (.agg #[.string ByteArray.empty, .int .i64 0, .int .u64 0]) 3 32 := by unfold TI; kernel_rfl
theorem ti39 : TI Try.prog 39 (.agg #[.int .i64 0, .int .u64 0, .int .u64 0, .int .i64 0, .int .i64 0, .slice none 0 0, .slice none 0 0, .slice none 0 0, .int .i64 0, .slice none 0 0]) 10 144 := by unfold TI; kernel_rfl
theorem ti41 : TI Try.prog 41 (.agg #[.int .i64 0, .int .i64 0, .int .i64 0, .int .u64 0, .int .u64 0, .int .i64 0, .int .i64 0, .slice none 0 0, .slice none 0 0, .slice none 0 0, .int .i64 0, .slice none 0 0]) 12 160 := by unfold TI; kernel_rfl
theorem ti64 : TI Try.prog 64 (.agg #[.int .i64 0, .int .i64 0, .map none]) 3 24 := by unfold TI; kernel_rfl
theorem ti62 : TI Try.prog 62 (.map none) 1 8 := by unfold TI; kernel_rfl
theorem ti37 : TI Try.prog 37 (.slice none 0 0) 1 24 := by unfold TI; kernel_rfl
theorem ti33 : TI Try.prog 33 (.slice none 0 0) 1 24 := by unfold TI; kernel_rfl
theorem ti34 : TI Try.prog 34 (.slice none 0 0) 1 24 := by unfold TI; kernel_rfl
theorem ti77 : TI Try.prog 77 (.slice none 0 0) 1 24 := by unfold TI; kernel_rfl
theorem ti54 : TI Try.prog 54 (.slice none 0 0) 1 24 := by unfold TI; kernel_rfl
theorem cal8 : Callable Try.prog 8 := ⟨_, Try.func8, rfl, by kernel_rfl⟩
theorem cal9 : Callable Try.prog 9 := ⟨_, Try.func9, rfl, by kernel_rfl⟩
theorem cal10 : Callable Try.prog 10 := ⟨_, Try.func10, rfl, by kernel_rfl⟩
theorem cal11 : Callable Try.prog 11 := ⟨_, Try.func11, rfl, by kernel_rfl⟩
theorem cal12 : Callable Try.prog 12 := ⟨_, Try.func12, rfl, by kernel_rfl⟩
theorem cal17 : Callable Try.prog 17 := ⟨_, Try.func17, rfl, by kernel_rfl⟩
theorem cal21 : Callable Try.prog 21 := ⟨_, Try.func21, rfl, by kernel_rfl⟩
theorem cal22 : Callable Try.prog 22 := ⟨_, Try.func22, rfl, by kernel_rfl⟩
theorem cal25 : Callable Try.prog 25 := ⟨_, Try.func25, rfl, by kernel_rfl⟩
theorem cal26 : Callable Try.prog 26 := ⟨_, Try.func26, rfl, by kernel_rfl⟩
theorem cal27 : Callable Try.prog 27 := ⟨_, Try.func27, rfl, by kernel_rfl⟩
theorem cal28 : Callable Try.prog 28 := ⟨_, Try.func28, rfl, by kernel_rfl⟩
theorem cal29 : Callable Try.prog 29 := ⟨_, Try.func29, rfl, by kernel_rfl⟩
theorem cal30 : Callable Try.prog 30 := ⟨_, Try.func30, rfl, by kernel_rfl⟩
theorem cal31 : Callable Try.prog 31 := ⟨_, Try.func31, rfl, by kernel_rfl⟩
theorem cal32 : Callable Try.prog 32 := ⟨_, Try.func32, rfl, by kernel_rfl⟩
theorem cal34 : Callable Try.prog 34 := ⟨_, Try.func34, rfl, by kernel_rfl⟩
theorem cal35 : Callable Try.prog 35 := ⟨_, Try.func35, rfl, by kernel_rfl⟩
theorem cal36 : Callable Try.prog 36 := ⟨_, Try.func36, rfl, by kernel_rfl⟩
theorem cal37 : Callable Try.prog 37 := ⟨_, Try.func37, rfl, by kernel_rfl⟩
theorem cal38 : Callable Try.prog 38 := ⟨_, Try.func38, rfl, by kernel_rfl⟩
theorem cal39 : Callable Try.prog 39 := ⟨_, Try.func39, rfl, by kernel_rfl⟩
theorem cal40 : Callable Try.prog 40 := ⟨_, Try.func40, rfl, by kernel_rfl⟩
theorem cal41 : Callable Try.prog 41 := ⟨_, Try.func41, rfl, by kernel_rfl⟩
theorem cal42 : Callable Try.prog 42 := ⟨_, Try.func42, rfl, by kernel_rfl⟩
theorem cal45 : Callable Try.prog 45 := ⟨_, Try.func45, rfl, by kernel_rfl⟩
theorem cal47 : Callable Try.prog 47 := ⟨_, Try.func47, rfl, by kernel_rfl⟩
theorem cal48 : Callable Try.prog 48 := ⟨_, Try.func48, rfl, by kernel_rfl⟩
abbrev e8 : Enc UInt8 := ⟨5, 1, 1, (.int .u8 0), fun x => [.int .u8 (x.toNat : Int)]⟩
theorem e8_ok : EncOk Try.prog e8 := ⟨ti5, rfl, Nat.zero_lt_one, fun _ => rfl, fun x v hv => by simp at hv; subst hv; rfl⟩
abbrev e_I : Enc Int := ⟨3, 1, 8, (.int .i64 0), fun x => [.int .i64 x]⟩
theorem e_I_ok : EncOk Try.prog e_I := ⟨ti3, rfl, Nat.zero_lt_one, fun _ => rfl, fun x v hv => by simp at hv; subst hv; rfl⟩
abbrev e_S : Enc ByteArray := ⟨9, 1, 16, (.string ByteArray.empty), fun x => [.string x]⟩
theorem e_S_ok : EncOk Try.prog e_S := ⟨ti9, rfl, Nat.zero_lt_one, fun _ => rfl, fun x v hv => by simp at hv; subst hv; rfl⟩
structure Tag where
  f_Id_Node : Int
  f_Id_Epoch : Int
  f_Id_Seq : Int
  f_Try : Int
abbrev e_Tag : Enc Tag := ⟨32, 4, 32, (.agg #[.int .i64 0, .int .u64 0, .int .u64 0, .int .i64 0]), fun x => [.int .i64 x.f_Id_Node, .int .u64 x.f_Id_Epoch, .int .u64 x.f_Id_Seq, .int .i64 x.f_Try]⟩
theorem e_Tag_ok : EncOk Try.prog e_Tag := ⟨ti32, rfl, Nat.lt_of_lt_of_le Nat.zero_lt_one (Nat.le_of_ble_eq_true rfl), fun _ => rfl, fun x v hv => by simp at hv; rcases hv with rfl | rfl | rfl | rfl <;> rfl⟩
structure Mark where
  f_Key : ByteArray
  f_Home : Int
  f_Count : Int
abbrev e_Mark : Enc Mark := ⟨61, 3, 32, (.agg #[.string ByteArray.empty, .int .i64 0, .int .u64 0]), fun x => [.string x.f_Key, .int .i64 x.f_Home, .int .u64 x.f_Count]⟩
theorem e_Mark_ok : EncOk Try.prog e_Mark := ⟨ti61, rfl, Nat.lt_of_lt_of_le Nat.zero_lt_one (Nat.le_of_ble_eq_true rfl), fun _ => rfl, fun x v hv => by simp at hv; rcases hv with rfl | rfl | rfl <;> rfl⟩
structure Op where
  f_Kind : Int
  f_Key : ByteArray
  f_Value : (Sl UInt8)
  f_N : Int
abbrev e_Op : Enc Op := ⟨79, 4, 56, (.agg #[.int .i64 0, .string ByteArray.empty, .slice none 0 0, .int .i64 0]), fun x => [.int .i64 x.f_Kind, .string x.f_Key, x.f_Value.val, .int .i64 x.f_N]⟩
theorem e_Op_ok : EncOk Try.prog e_Op := ⟨ti79, rfl, Nat.lt_of_lt_of_le Nat.zero_lt_one (Nat.le_of_ble_eq_true rfl), fun _ => rfl, fun x v hv => by simp at hv; rcases hv with rfl | rfl | rfl | rfl <;> rfl⟩
structure Order where
  f_Tag_Id_Node : Int
  f_Tag_Id_Epoch : Int
  f_Tag_Id_Seq : Int
  f_Tag_Try : Int
  f_Txn_Kind : Int
  f_Txn_Reads : (Sl ByteArray)
  f_Txn_Writes : (Sl ByteArray)
  f_Txn_Ops : (Sl Op)
  f_Txn_To : Int
  f_Marks : (Sl Mark)
structure Item where
  f_Kind : Int
  f_Index : Int
  f_Order_Tag_Id_Node : Int
  f_Order_Tag_Id_Epoch : Int
  f_Order_Tag_Id_Seq : Int
  f_Order_Tag_Try : Int
  f_Order_Txn_Kind : Int
  f_Order_Txn_Reads : (Sl ByteArray)
  f_Order_Txn_Writes : (Sl ByteArray)
  f_Order_Txn_Ops : (Sl Op)
  f_Order_Txn_To : Int
  f_Order_Marks : (Sl Mark)
abbrev e_Item : Enc Item := ⟨41, 12, 160, (.agg #[.int .i64 0, .int .i64 0, .int .i64 0, .int .u64 0, .int .u64 0, .int .i64 0, .int .i64 0, .slice none 0 0, .slice none 0 0, .slice none 0 0, .int .i64 0, .slice none 0 0]), fun x => [.int .i64 x.f_Kind, .int .i64 x.f_Index, .int .i64 x.f_Order_Tag_Id_Node, .int .u64 x.f_Order_Tag_Id_Epoch, .int .u64 x.f_Order_Tag_Id_Seq, .int .i64 x.f_Order_Tag_Try, .int .i64 x.f_Order_Txn_Kind, x.f_Order_Txn_Reads.val, x.f_Order_Txn_Writes.val, x.f_Order_Txn_Ops.val, .int .i64 x.f_Order_Txn_To, x.f_Order_Marks.val]⟩
theorem e_Item_ok : EncOk Try.prog e_Item := ⟨ti41, rfl, Nat.lt_of_lt_of_le Nat.zero_lt_one (Nat.le_of_ble_eq_true rfl), fun _ => rfl, fun x v hv => by simp at hv; rcases hv with rfl | rfl | rfl | rfl | rfl | rfl | rfl | rfl | rfl | rfl | rfl | rfl <;> rfl⟩
theorem sp36 : StructP Try.prog 36 #[(0, 1), (1, 1), (2, 1), (3, 1), (4, 1)] := ⟨_, Try.underlying36, fun w => by kernel_rfl⟩
theorem sp61 : StructP Try.prog 61 #[(0, 1), (1, 1), (2, 1)] := ⟨_, Try.underlying61, fun w => by kernel_rfl⟩
theorem sp39 : StructP Try.prog 39 #[(0, 4), (4, 5), (9, 1)] := ⟨_, Try.underlying39, fun w => by kernel_rfl⟩
theorem sp41 : StructP Try.prog 41 #[(0, 1), (1, 1), (2, 10)] := ⟨_, Try.underlying41, fun w => by kernel_rfl⟩
theorem sp64 : StructP Try.prog 64 #[(0, 1), (1, 1), (2, 1)] := ⟨_, Try.underlying64, fun w => by kernel_rfl⟩
instance : DecidableEq Tag := fun a b => decidable_of_iff (a.f_Id_Node = b.f_Id_Node ∧ a.f_Id_Epoch = b.f_Id_Epoch ∧ a.f_Id_Seq = b.f_Id_Seq ∧ a.f_Try = b.f_Try) ⟨fun h => by cases a; cases b; simp_all, fun h => by rw [h]; simp⟩
theorem eqId (a0 a1 a2 b0 b1 b2 : Int) (w : World) : (Op.equalIn 9999 30 (.agg #[.int .i64 a0, .int .u64 a1, .int .u64 a2]) (.agg #[.int .i64 b0, .int .u64 b1, .int .u64 b2])).run Try.prog w = .ok (decide (a0 = b0 ∧ a1 = b1 ∧ a2 = b2)) w := by
  rw [run_equalIn_agg w 9998 30 _ _ (by simp [Program.fieldsOf, Try.underlying30]) (by kernel_rfl)]
  by_cases h0 : a0 = b0 <;> by_cases h1 : a1 = b1 <;> by_cases h2 : a2 = b2 <;>
    simp [Program.fieldsOf, Try.underlying30, Op.eqFields, part, run_isAgg Try.underlying3, run_isAgg Try.underlying28, aggD, run_equalIn_int w _ _ _ _ _ _ Try.underlying3, run_equalIn_int w _ _ _ _ _ _ Try.underlying28, h0, h1, h2]
theorem eqS32 (x y : Tag) (w : World) : (Op.equalIn 10000 32 (.agg (e_Tag.cells x).toArray) (.agg (e_Tag.cells y).toArray)).run Try.prog w = .ok (decide (x = y)) w := by
  rw [run_equalIn_agg w 9999 32 _ _ (by simp [Program.fieldsOf, Try.underlying32]) (by kernel_rfl)]
  obtain ⟨a0, a1, a2, a3⟩ := x
  obtain ⟨b0, b1, b2, b3⟩ := y
  by_cases h : (⟨a0, a1, a2, a3⟩ : Tag) = ⟨b0, b1, b2, b3⟩
  · rw [decide_eq_true h]
    obtain ⟨rfl, rfl, rfl, rfl⟩ := Tag.mk.inj h
    simp [Program.fieldsOf, Try.underlying32, Op.eqFields, part, run_isAgg Try.underlying30, run_isAgg Try.underlying3, run_sizeOf' ti30, aggD, eqId, run_equalIn_int w _ _ _ _ _ _ Try.underlying3]
  · rw [decide_eq_false h]
    simp only [Tag.mk.injEq] at h
    by_cases h1 : a0 = b0 ∧ a1 = b1 ∧ a2 = b2 <;>
      simp [Program.fieldsOf, Try.underlying32, Op.eqFields, part, run_isAgg Try.underlying30, run_isAgg Try.underlying3, run_sizeOf' ti30, aggD, eqId, run_equalIn_int w _ _ _ _ _ _ Try.underlying3, h1] <;> grind
abbrev kvTag : Tag → Value := fun x => .agg (e_Tag.cells x).toArray
theorem checkInt {T : TypeId} {k : IntKind} (h : Try.prog.underlying T = some (.int k)) (b : Bool) (n : Nat) (x : Int) (w : World) : (Instr.checkKey b (n + 1) T (.int k x)).run Try.prog w = .ok () w := by simp [Instr.checkKey, run_underlying h]
theorem checkId (b : Bool) (n : Nat) (a0 a1 a2 : Int) (w : World) : (Instr.checkKey b (n + 2) 30 (.agg #[.int .i64 a0, .int .u64 a1, .int .u64 a2])).run Try.prog w = .ok () w := by
  rw [Instr.checkKey]
  simp [run_underlying Try.underlying30, part, run_isAgg Try.underlying3, run_isAgg Try.underlying28, aggD, checkInt Try.underlying3, checkInt Try.underlying28]
theorem checkTag (b : Bool) (n : Nat) (x : Tag) (w : World) : (Instr.checkKey b (n + 3) 32 (.agg (e_Tag.cells x).toArray)).run Try.prog w = .ok () w := by
  obtain ⟨a0, a1, a2, a3⟩ := x
  rw [Instr.checkKey]
  simp [run_underlying Try.underlying32, part, run_isAgg Try.underlying30, run_isAgg Try.underlying3, run_sizeOf' ti30, aggD, checkId, checkInt Try.underlying3]
theorem sameBits_int (n : Nat) (k : IntKind) (x : Int) : Instr.sameBits n (.int k x) (.int k x) = true := by cases n <;> simp [Instr.sameBits]
theorem koTag : KeyOk Try.prog 32 kvTag := keyOk_struct Try.underlying32 (fun b x w => checkTag b 9997 x w) eqS32 (fun x v hv => by simp at hv; rcases hv with rfl | rfl | rfl | rfl <;> exact sameBits_int _ _ _)
abbrev vvInt : Int → Value := fun x => .int .i64 x
abbrev Item.ord (x : Item) : Order := ⟨x.f_Order_Tag_Id_Node, x.f_Order_Tag_Id_Epoch, x.f_Order_Tag_Id_Seq, x.f_Order_Tag_Try, x.f_Order_Txn_Kind, x.f_Order_Txn_Reads, x.f_Order_Txn_Writes, x.f_Order_Txn_Ops, x.f_Order_Txn_To, x.f_Order_Marks⟩
end
section
set_option linter.unusedVariables false
set_option linter.unusedSimpArgs false
open Go.RowKit Classical
structure Sto {κ : Type} (lt : κ → κ → Prop) : Prop where
  irr : ∀ a, ¬ lt a a
  tr : ∀ {a b c}, lt a b → lt b c → lt a c
  tri : ∀ {a b}, ¬ lt a b → ¬ lt b a → a = b
section
variable {α κ : Type} {key : α → κ} {lt : κ → κ → Prop}
def Srt (key : α → κ) (lt : κ → κ → Prop) (xs : List α) : Prop := xs.Pairwise fun a b => lt (key a) (key b)
noncomputable def ins (key : α → κ) (lt : κ → κ → Prop) (x : α) : List α → List α
  | [] => [x]
  | y :: ys => if lt (key x) (key y) then x :: y :: ys else if lt (key y) (key x) then y :: ins key lt x ys else x :: ys
theorem ins_pre (o : Sto lt) {x : α} {Z : List α} : ∀ {P : List α}, (∀ p ∈ P, lt (key p) (key x)) → ins key lt x (P ++ Z) = P ++ ins key lt x Z
  | [], _ => rfl
  | p :: P, h => by
    have h1 := h p (by simp)
    rw [List.cons_append, ins, if_neg (fun h2 => o.irr _ (o.tr h1 h2)), if_pos h1, ins_pre o (fun q hq => h q (by simp [hq]))]
    rfl
theorem ins_gt {x : α} {Z : List α} (h : ∀ s ∈ Z, lt (key x) (key s)) : ins key lt x Z = x :: Z := by
  cases Z with
  | nil => rfl
  | cons z Z => rw [ins, if_pos (h z (by simp))]
theorem mem_ins {x y : α} : ∀ {xs : List α}, y ∈ ins key lt x xs → y = x ∨ y ∈ xs
  | [], h => by simp [ins] at h; exact .inl h
  | z :: zs, h => by
    rw [ins] at h
    split at h
    · simp at h; simpa using h
    · split at h
      · simp at h
        rcases h with h | h
        · exact .inr (by simp [h])
        · rcases mem_ins h with h | h
          · exact .inl h
          · exact .inr (by simp [h])
      · simp at h
        rcases h with h | h
        · exact .inl h
        · exact .inr (by simp [h])
theorem srt_ins (o : Sto lt) {x : α} : ∀ {xs : List α}, Srt key lt xs → Srt key lt (ins key lt x xs)
  | [], _ => by simp [ins, Srt]
  | y :: ys, h => by
    have h' := List.pairwise_cons.1 h
    rw [ins]
    split
    · rename_i h1
      exact List.pairwise_cons.2 ⟨fun z hz => by
        rcases List.mem_cons.1 hz with rfl | hz
        · exact h1
        · exact o.tr h1 (h'.1 z hz), h⟩
    · rename_i h1
      split
      · rename_i h2
        exact List.pairwise_cons.2 ⟨fun z hz => by
          rcases mem_ins hz with rfl | hz
          · exact h2
          · exact h'.1 z hz, srt_ins o h'.2⟩
      · rename_i h2
        have he := o.tri h1 h2
        exact List.pairwise_cons.2 ⟨fun z hz => by rw [he]; exact h'.1 z hz, h'.2⟩
def post : List α → List (List α) → List α
  | [], _ => []
  | i :: its, [] => i :: post its []
  | i :: its, k :: ks => i :: (k ++ post its ks)
end
abbrev ilt : Int → Int → Prop := fun a b => a < b
theorem ilt_sto : Sto ilt := ⟨fun a h => by omega, fun h1 h2 => by omega, fun h1 h2 => by omega⟩
end
section
set_option linter.unusedVariables false
set_option linter.unusedSimpArgs false
open Go.RowKit Classical
section
variable {α : Type} {lt : α → α → Prop}
theorem mem_insI (o : Sto lt) {x y : α} : ∀ {xs : List α}, y ∈ ins id lt x xs ↔ y = x ∨ y ∈ xs
  | [] => by simp [ins]
  | z :: zs => by
    constructor
    · exact mem_ins
    · intro h
      rw [ins]
      split
      · simpa using h
      · split
        · rcases h with h | h
          · simp [(mem_insI o (xs := zs)).2 (.inl h)]
          · rcases List.mem_cons.1 h with h | h
            · simp [h]
            · simp [(mem_insI o (xs := zs)).2 (.inr h)]
        · rename_i h1 h2
          have hz : z = x := o.tri h2 h1
          subst hz
          simpa using h
theorem srtI_uniq (o : Sto lt) : ∀ {xs ys : List α}, Srt id lt xs → Srt id lt ys → (∀ x, x ∈ xs ↔ x ∈ ys) → xs = ys
  | [], [], _, _, _ => rfl
  | [], y :: ys, _, _, h => by have := (h y).2 (by simp); cases this
  | x :: xs, [], _, _, h => by have := (h x).1 (by simp); cases this
  | x :: xs, y :: ys, hx, hy, h => by
    have hx' := List.pairwise_cons.1 hx
    have hy' := List.pairwise_cons.1 hy
    have hxy : x = y := by
      rcases List.mem_cons.1 ((h x).1 (by simp)) with h1 | h1
      · exact h1
      · rcases List.mem_cons.1 ((h y).2 (by simp)) with h2 | h2
        · exact h2.symm
        · exact absurd (o.tr (hx'.1 y h2) (hy'.1 x h1)) (o.irr x)
    subst hxy
    rw [srtI_uniq o hx'.2 hy'.2 (fun z => by
      have hz := h z
      simp only [List.mem_cons] at hz
      constructor
      · intro h1
        rcases hz.1 (.inr h1) with h2 | h2
        · subst h2; exact absurd (hx'.1 z h1) (o.irr z)
        · exact h2
      · intro h1
        rcases hz.2 (.inr h1) with h2 | h2
        · subst h2; exact absurd (hy'.1 z h1) (o.irr z)
        · exact h2)]
/-- The elements of a list, rising, each once. -/
noncomputable def setOf (lt : α → α → Prop) (xs : List α) : List α := xs.foldl (fun out k => ins id lt k out) []
theorem setOf_snoc {xs : List α} {x : α} : setOf lt (xs ++ [x]) = ins id lt x (setOf lt xs) := by simp [setOf, List.foldl_append]
theorem fold_srt (o : Sto lt) : ∀ {xs out : List α}, Srt id lt out → Srt id lt (xs.foldl (fun out k => ins id lt k out) out)
  | [], _, h => h
  | x :: xs, _, h => fold_srt o (xs := xs) (srt_ins o h)
theorem fold_mem (o : Sto lt) {y : α} : ∀ {xs out : List α}, y ∈ xs.foldl (fun out k => ins id lt k out) out ↔ y ∈ xs ∨ y ∈ out
  | [], _ => by simp
  | x :: xs, out => by
    rw [List.foldl_cons, fold_mem o (xs := xs), mem_insI o, List.mem_cons]
    constructor
    · rintro (h | h | h)
      · exact .inl (.inr h)
      · exact .inl (.inl h)
      · exact .inr h
    · rintro ((h | h) | h)
      · exact .inr (.inl h)
      · exact .inl h
      · exact .inr (.inr h)
theorem setOf_srt (o : Sto lt) (xs : List α) : Srt id lt (setOf lt xs) := fold_srt o List.Pairwise.nil
theorem setOf_mem (o : Sto lt) {xs : List α} {y : α} : y ∈ setOf lt xs ↔ y ∈ xs := by
  unfold setOf; rw [fold_mem o]; simp
theorem setOf_eq (o : Sto lt) {xs ys : List α} (hs : Srt id lt ys) (h : ∀ x, x ∈ ys ↔ x ∈ xs) : ys = setOf lt xs :=
  srtI_uniq o hs (setOf_srt o xs) fun x => by rw [h, setOf_mem o]
theorem ins_in (o : Sto lt) {x : α} {xs : List α} (hs : Srt id lt xs) (h : x ∈ xs) : ins id lt x xs = xs :=
  srtI_uniq o (srt_ins o hs) hs fun y => by
    rw [mem_insI o]
    constructor
    · rintro (rfl | h1)
      · exact h
      · exact h1
    · exact .inr
theorem setOf_perm (o : Sto lt) {xs ys : List α} (h : ys.Perm xs) : setOf lt ys = setOf lt xs := setOf_eq o (setOf_srt o ys) fun x => by rw [setOf_mem o, h.mem_iff]
theorem setOf_len (o : Sto lt) : ∀ {xs out : List α}, (xs.foldl (fun out k => ins id lt k out) out).length ≤ out.length + xs.length
  | [], _ => by simp
  | x :: xs, out => by
    have h1 : ∀ {zs : List α}, (ins id lt x zs).length ≤ zs.length + 1 := by
      intro zs
      induction zs with
      | nil => simp [ins]
      | cons z zs ih =>
        rw [ins]
        split
        · simp
        · split
          · simp; exact ih
          · simp
    have h2 := setOf_len o (xs := xs) (out := ins id lt x out)
    have h3 := h1 (zs := out)
    simp only [List.foldl_cons, List.length_cons]
    omega
theorem setOf_le (o : Sto lt) (xs : List α) : (setOf lt xs).length ≤ xs.length := by
  have := setOf_len o (xs := xs) (out := [])
  simpa [setOf] using this
end
section
variable {α : Type} {lt : α → α → Prop}
def InsAt (lt : α → α → Prop) (out : List α) (x : α) (k : Nat) (cur : List α) : Prop := ∃ A B, cur = A ++ x :: B ∧ out = A ++ B ∧ A.length = k ∧ ∀ b ∈ B, lt x b
theorem insAt_0 (out : List α) (x : α) : InsAt lt out x out.length (out ++ [x]) := ⟨out, [], rfl, by simp, rfl, fun b hb => by simp at hb⟩
theorem insAt_len {out cur : List α} {x : α} {k : Nat} (h : InsAt lt out x k cur) : cur.length = out.length + 1 ∧ k ≤ out.length := by
  obtain ⟨A, B, rfl, rfl, rfl, h4⟩ := h
  simp; omega
theorem insAt_x {out cur : List α} {x x1 : α} {k : Nat} (h : InsAt lt out x k cur) (hx : cur[k]? = some x1) : x1 = x := by
  obtain ⟨A, B, rfl, rfl, rfl, h4⟩ := h
  rw [List.getElem?_append_right (Nat.le_refl _), Nat.sub_self] at hx
  simpa using hx.symm
theorem insAt_on {out cur : List α} {x x1 y1 : α} {k : Nat} (h : InsAt lt out x (k + 1) cur) (hx : cur[k + 1]? = some x1) (hy : cur[k]? = some y1) (hl : lt x1 y1) : InsAt lt out x k ((cur.set (k + 1) y1).set k x1) := by
  have e := insAt_x h hx
  subst e
  obtain ⟨A, B, rfl, rfl, h3, h4⟩ := h
  rcases List.eq_nil_or_concat A with h0 | ⟨A', y, rfl⟩
  · subst h0; cases h3
  · rw [List.concat_eq_append] at *
    have hk : A'.length = k := by simpa using h3
    rw [List.getElem?_append_left (by simp; omega), List.getElem?_append_right (by omega), hk, Nat.sub_self] at hy
    have e2 : y = y1 := by simpa using hy
    subst e2
    refine ⟨A', y :: B, ?_, by simp, hk, fun b hb => ?_⟩
    · rw [List.append_assoc, List.set_append_right _ _ (by omega), hk, Nat.add_sub_cancel_left]
      simp only [List.singleton_append, List.set_cons_succ, List.set_cons_zero]
      rw [List.set_append_right _ _ (by omega), hk, Nat.sub_self]
      rfl
    · rcases List.mem_cons.1 hb with rfl | hb
      · exact hl
      · exact h4 b hb
theorem insAt_end (o : Sto lt) {out cur : List α} {x : α} {k : Nat} (h : InsAt lt out x k cur) (hs : Srt id lt out) (hn : ¬ x ∈ out) (he : k = 0 ∨ ∃ x1 y1, cur[k]? = some x1 ∧ cur[k - 1]? = some y1 ∧ ¬ lt x1 y1) : cur = ins id lt x out := by
  have hx' := fun x1 hx => insAt_x h (x1 := x1) hx
  obtain ⟨A, B, rfl, rfl, h3, h4⟩ := h
  have ha : ∀ p ∈ A, lt p x := by
    intro p hp
    rcases he with rfl | ⟨x1, y1, h5, h6, h7⟩
    · rw [List.eq_nil_of_length_eq_zero h3] at hp; cases hp
    · obtain rfl := hx' x1 h5
      rcases List.eq_nil_or_concat A with h0 | ⟨A', y, rfl⟩
      · subst h0; cases hp
      · rw [List.concat_eq_append] at *
        have hk : A'.length = k - 1 := by simp at h3; omega
        rw [List.getElem?_append_left (by simp; omega), List.getElem?_append_right (by omega), hk, Nat.sub_self] at h6
        have e2 : y = y1 := by simpa using h6
        subst e2
        have hyx : lt y x1 := Classical.byContradiction fun h8 => hn (by rw [o.tri h7 h8]; simp)
        rcases List.mem_append.1 hp with hp | hp
        · have h9 := (List.pairwise_append.1 (List.pairwise_append.1 hs).1).2.2 p hp y (by simp)
          exact o.tr h9 hyx
        · rw [List.mem_singleton.1 hp]; exact hyx
  rw [ins_pre (key := id) o ha, ins_gt (key := id) h4]
end
section
variable {α : Type} [Inhabited α] [DecidableEq α] {lt : α → α → Prop}
theorem compact_to (o : Sto lt) {d : Array α} (hs : ∀ i j, i < j → j < d.size → ¬ lt d[j]! d[i]!) : ∀ m, m ≤ d.size → Srt id lt (Lib.compactUpTo d m) ∧ ∀ x, x ∈ Lib.compactUpTo d m ↔ ∃ j, j < m ∧ d[j]! = x := by
  intro m
  induction m with
  | zero => intro _; exact ⟨by simp [Lib.compactUpTo, Srt], fun x => by simp [Lib.compactUpTo]⟩
  | succ m ih =>
    intro hm
    obtain ⟨h1, h2⟩ := ih (by omega)
    rw [Lib.compactUpTo_succ]
    by_cases hk : Lib.keeps d m = true
    · rw [if_pos hk]
      have hk' : m = 0 ∨ d[m]! ≠ d[m - 1]! := by simpa [Lib.keeps] using hk
      refine ⟨List.pairwise_append.2 ⟨h1, List.pairwise_singleton _ _, fun x hx y hy => ?_⟩, fun x => ?_⟩
      · obtain ⟨j, hj, rfl⟩ := (h2 x).1 hx
        obtain rfl : y = d[m]! := by simpa using hy
        have hne : d[m]! ≠ d[m - 1]! := hk'.resolve_left (by omega)
        have ha : lt d[m - 1]! d[m]! := Classical.byContradiction fun h0 => hne (o.tri (hs (m - 1) m (by omega) (by omega)) h0)
        by_cases hjm : j = m - 1
        · subst hjm; exact ha
        · have hb := hs j (m - 1) (by omega) (by omega)
          by_cases hc : lt d[j]! d[m - 1]!
          · exact o.tr hc ha
          · have he := o.tri hc hb
            show lt d[j]! d[m]!
            rw [he]; exact ha
      · rw [List.mem_append, h2]
        constructor
        · rintro (⟨j, hj, rfl⟩ | h)
          · exact ⟨j, by omega, rfl⟩
          · exact ⟨m, by omega, (List.mem_singleton.1 h).symm⟩
        · rintro ⟨j, hj, rfl⟩
          by_cases hjm : j = m
          · subst hjm; exact .inr (by simp)
          · exact .inl ⟨j, by omega, rfl⟩
    · rw [if_neg hk, List.append_nil]
      have hk' : ¬ (m = 0 ∨ d[m]! ≠ d[m - 1]!) := by simpa [Lib.keeps] using hk
      have h0 : m ≠ 0 := fun h => hk' (.inl h)
      have he : d[m]! = d[m - 1]! := Classical.byContradiction fun h => hk' (.inr h)
      refine ⟨h1, fun x => ?_⟩
      rw [h2]
      constructor
      · rintro ⟨j, hj, rfl⟩; exact ⟨j, by omega, rfl⟩
      · rintro ⟨j, hj, rfl⟩
        by_cases hjm : j = m
        · subst hjm; exact ⟨j - 1, by omega, he.symm⟩
        · exact ⟨j, by omega, rfl⟩
theorem compact_setOf (o : Sto lt) {zs : List α} (hs : zs.Pairwise fun a b => ¬ lt b a) : Lib.compact zs = setOf lt zs := by
  have hg : ∀ i (hi : i < zs.length), zs.toArray[i]! = zs[i] := fun i hi => by
    rw [getElem!_pos zs.toArray i (by simpa using hi)]; simp
  obtain ⟨h1, h2⟩ := compact_to o (d := zs.toArray) (fun i j hij hj => by
    have hj' : j < zs.length := by simpa using hj
    rw [hg i (by omega), hg j hj']
    exact List.pairwise_iff_getElem.1 hs i j (by omega) hj' hij) zs.length (by simp)
  refine setOf_eq o h1 fun x => ?_
  unfold Lib.compact
  rw [h2, List.mem_iff_getElem]
  constructor
  · rintro ⟨j, hj, rfl⟩; exact ⟨j, hj, (hg j hj).symm⟩
  · rintro ⟨j, hj, rfl⟩; exact ⟨j, hj, hg j hj⟩
end
section
variable {P : Program} {W w : World} {L : List Res} {κ α : Type} [Inhabited κ] {encK : κ → Value}
theorem Sat.sortRow {T c n g q : Nat} {ys : List κ} {cs : List Value} {os : Array Obj} (S : Sat W w (row T 1 (some ⟨g, 0, none⟩) n c cs :: L)) (hn : ys.length = n) (m : Nat) (hm : m ≤ n) :
    Sat W (Sort.grow (Sort.putRow encK (Sort.ahead w q) g 0 ys.toArray) os) (row T 1 (some ⟨g, 0, none⟩) m c ((ys.map encK).take m) :: L) := by
  obtain ⟨hl, ⟨h, _⟩ | ⟨g', cur, he, h2, h3, h4, h5, S'⟩⟩ := S.own_cases
  · cases h
  · cases he
    have hg := (Array.getElem?_eq_some_iff.1 S'.read.2).1
    have S1 : Sat W (Sort.putRow encK (Sort.ahead w q) g 0 ys.toArray) (blk g (.cells (Sort.putCells encK 0 ys.toArray cur) T (0, 0)) :: L) :=
      S'.turn rfl rfl rfl (by simp [Sort.putRow, Sort.mapBlock, Sort.ahead]) (by
        simp only [Sort.putRow, Sort.mapBlock, Sort.ahead, Array.getElem?_modify, if_true]
        rw [S'.read.2]; rfl) (fun j hj => by
        simp only [Sort.putRow, Sort.mapBlock, Sort.ahead, Array.getElem?_modify]
        rw [if_neg (Ne.symm hj)]) (by show w.drawn ≤ w.drawn + _; omega)
    have S2 := S1.more (w' := Sort.grow (Sort.putRow encK (Sort.ahead w q) g 0 ys.toArray) os) ⟨rfl, rfl, rfl, by simp [Sort.grow], fun k hk => Sort.heap_grow_old _ _ hk⟩
    refine S2.own_mk (by omega) h3 (by simpa [Sort.putCells] using h4) ?_
    have hsz : n ≤ cur.size := by omega
    apply List.ext_getElem?
    intro i
    rw [List.getElem?_take, List.getElem?_take, Nat.mul_one]
    by_cases hi : i < m
    · rw [if_pos hi, if_pos hi]
      have hiy : i < ys.length := by omega
      rw [List.getElem?_map, List.getElem?_eq_getElem hiy]
      simp only [Sort.putCells, Array.getElem?_toList, Array.getElem?_mapIdx]
      rw [Array.getElem?_eq_getElem (by omega : i < cur.size)]
      simp only [Option.map_some, List.size_toArray]
      rw [if_pos ⟨by omega, by omega⟩]
      rw [Nat.sub_zero, getElem!_pos ys.toArray i (by simpa using hiy)]
      simp
    · rw [if_neg hi, if_neg hi]
theorem Sat.holds {T c g : Nat} {ys : List κ} (S : Sat W w (row T 1 (some ⟨g, 0, none⟩) ys.length c (ys.map encK) :: L)) : Sort.Holds encK w g 0 ys.toArray := fun j hj => by
  have hj' : j < ys.length := by simpa using hj
  refine ⟨?_, by rw [Nat.zero_add]; exact S.own_frozen j⟩
  rw [Nat.zero_add]
  refine S.own_cell j _ ?_
  rw [List.getElem?_map, List.getElem?_eq_getElem hj', getElem!_pos ys.toArray j hj]
  simp
theorem Sat.row_lt {T sz c n g : Nat} {cs : List Value} (S : Sat W w (row T sz (some ⟨g, 0, none⟩) n c cs :: L)) : g < w.heap.size := by
  obtain ⟨hl, ⟨h, _⟩ | ⟨g', cur, he, h2, h3, h4, h5, S'⟩⟩ := S.own_cases
  · cases h
  · cases he
    exact (Array.getElem?_eq_some_iff.1 S'.read.2).1
theorem Sat.row_nil {T sz c n : Nat} {cs : List Value} (S : Sat W w (row T sz none n c cs :: L)) : n = 0 ∧ c = 0 := by
  obtain ⟨hl, ⟨_, h1, h2, _⟩ | ⟨g', cur, he, _⟩⟩ := S.own_cases
  · exact ⟨h1, h2⟩
  · cases he
theorem Sat.row_where {T sz c n : Nat} {a : Option Addr} {cs : List Value} (S : Sat W w (row T sz a n c cs :: L)) : a = none ∨ ∃ g, a = some ⟨g, 0, none⟩ := by
  obtain ⟨hl, ⟨h, _⟩ | ⟨g', cur, he, _⟩⟩ := S.own_cases
  · exact .inl h
  · exact .inr ⟨g', he⟩
theorem flat_map1 {e : Enc α} {f : α → Value} (hc : e.cells = fun x => [f x]) (xs : List α) : flat e xs = xs.map f := by
  simp only [flat, hc]
  induction xs with
  | nil => rfl
  | cons y ys ih => simp [ih]
/-- slices.Sort on an owned row. -/
theorem cs_sort {f : FuncId} {e : Enc α} {ψ : α → κ} {φ : κ → α} {le : κ → κ → Bool} {lt : α → α → Prop} (hc : e.cells = fun x => [encK (ψ x)]) (hz : e.sz = 1) (h1 : ∀ x, φ (ψ x) = x) (h2 : ∀ k, ψ (φ k) = k)
    (hle : ∀ a b, le a b = true → ¬ lt (φ b) (φ a)) (htr : ∀ a b c, le a b = true → le b c = true → le a c = true) (htot : ∀ a b, (le a b || le b a) = true)
    (h : ∀ (blk off cap : Nat) (ss : List κ) (w : World), Sort.Holds encK w blk off ss.toArray → blk < w.heap.size → ss.length < 4611686018427387904 →
      Calls P f #[.slice (some ⟨blk, off, none⟩) ss.length cap] w fun e w' => e = .returned (.tuple #[]) ∧ ∃ n os, w' = Sort.grow (Sort.putRow encK (Sort.ahead w n) blk off (ss.mergeSort le).toArray) os)
    (h0 : ∀ (p : Option Addr) (cap : Nat) (w : World), Calls P f #[.slice p 0 cap] w fun e w' => e = .returned (.tuple #[]) ∧ w' = w)
    {a : Option Addr} {c : Nat} {xs : List α} (hl : xs.length < 4611686018427387904) :
    CS P f #[.slice a xs.length c] W (row e.T e.sz a xs.length c (flat e xs) :: L) fun v L' => ∃ ys, ys.Perm xs ∧ ys.Pairwise (fun a b => ¬ lt b a) ∧ v = .tuple #[] ∧ L' = row e.T e.sz a ys.length c (flat e ys) :: L := fun w S => by
  rw [hz] at S ⊢
  rcases S.row_where with rfl | ⟨g, rfl⟩
  · obtain ⟨hn, rfl⟩ := S.row_nil
    have hx : xs = [] := List.eq_nil_of_length_eq_zero hn
    subst hx
    refine (h0 none 0 w).mono ?_
    rintro e' w' ⟨rfl, rfl⟩
    exact ⟨_, _, rfl, ⟨[], List.Perm.refl _, List.Pairwise.nil, rfl, rfl⟩, S⟩
  · rw [flat_map1 hc, show xs.map (fun x => encK (ψ x)) = (xs.map ψ).map encK by rw [List.map_map]; rfl] at S
    have hS2 : Sat W w (row e.T 1 (some ⟨g, 0, none⟩) (xs.map ψ).length c ((xs.map ψ).map encK) :: L) := by simpa using S
    have := h g 0 c (xs.map ψ) w hS2.holds S.row_lt (by simpa using hl)
    rw [List.length_map] at this
    refine this.mono ?_
    rintro e' w' ⟨rfl, n, os, rfl⟩
    have hp : ((xs.map ψ).mergeSort le).Perm (xs.map ψ) := List.mergeSort_perm _ _
    refine ⟨_, _, rfl, ⟨((xs.map ψ).mergeSort le).map φ, ?_, ?_, rfl, rfl⟩, ?_⟩
    · have := hp.map φ
      rw [List.map_map, show φ ∘ ψ = id from funext h1, List.map_id] at this
      exact this
    · rw [List.pairwise_map]
      exact (List.pairwise_mergeSort htr htot (xs.map ψ)).imp fun {x y} hxy => hle x y hxy
    · have hlen : ((xs.map ψ).mergeSort le).length = xs.length := by rw [hp.length_eq, List.length_map]
      have S3 := S.sortRow (encK := encK) (q := n) (os := os) (ys := (xs.map ψ).mergeSort le) hlen xs.length (Nat.le_refl _)
      rw [List.take_of_length_le (by simp)] at S3
      have e1 : flat e (((xs.map ψ).mergeSort le).map φ) = ((xs.map ψ).mergeSort le).map encK := by
        rw [flat_map1 hc, List.map_map]
        refine List.map_congr_left fun k _ => ?_
        simp [h2]
      rw [e1, List.length_map, hlen]
      exact S3
/-- slices.Compact on an owned row that is sorted. -/
theorem cs_compact [DecidableEq κ] {f : FuncId} {e : Enc α} {ψ : α → κ} {φ : κ → α} {z : κ} {lt : α → α → Prop} (o : Sto lt) (hc : e.cells = fun x => [encK (ψ x)]) (hz : e.sz = 1) (h1 : ∀ x, φ (ψ x) = x) (h2 : ∀ k, ψ (φ k) = k)
    (h : ∀ (blk off cap : Nat) (zs : List κ) (w : World), Sort.Holds encK w blk off zs.toArray → zs.length ≤ 9223372036854775807 → zs.length ≤ cap →
      Calls P f #[.slice (some ⟨blk, off, none⟩) zs.length cap] w fun e w' => e = .returned (.slice (some ⟨blk, off, none⟩) (Lib.compact zs).length cap) ∧ ∃ q, w' = Sort.putRow encK (Sort.ahead w q) blk off (Lib.compact zs ++ List.replicate (zs.length - (Lib.compact zs).length) z).toArray)
    (h0 : ∀ (p : Option Addr) (cap : Nat) (w : World), Calls P f #[.slice p 0 cap] w fun e w' => e = .returned (.slice p 0 cap) ∧ w' = w)
    {a : Option Addr} {c : Nat} {xs : List α} (hs : xs.Pairwise fun a b => ¬ lt b a) (hl : xs.length ≤ 9223372036854775807) :
    CS P f #[.slice a xs.length c] W (row e.T e.sz a xs.length c (flat e xs) :: L) fun v L' => v = .slice a (setOf lt xs).length c ∧ L' = row e.T e.sz a (setOf lt xs).length c (flat e (setOf lt xs)) :: L := fun w S => by
  have hcap := S.own_len.2.1
  rw [hz] at S ⊢
  rcases S.row_where with rfl | ⟨g, rfl⟩
  · obtain ⟨hn, rfl⟩ := S.row_nil
    have hx : xs = [] := List.eq_nil_of_length_eq_zero hn
    subst hx
    refine (h0 none 0 w).mono ?_
    rintro e' w' ⟨rfl, rfl⟩
    exact ⟨_, _, rfl, ⟨rfl, rfl⟩, S⟩
  · rw [flat_map1 hc, show xs.map (fun x => encK (ψ x)) = (xs.map ψ).map encK by rw [List.map_map]; rfl] at S
    have hS2 : Sat W w (row e.T 1 (some ⟨g, 0, none⟩) (xs.map ψ).length c ((xs.map ψ).map encK) :: L) := by simpa using S
    have := h g 0 c (xs.map ψ) w hS2.holds (by simpa using hl) (by simpa using hcap)
    rw [List.length_map] at this
    refine this.mono ?_
    rintro e' w' ⟨rfl, q, rfl⟩
    let ltK : κ → κ → Prop := fun a b => lt (φ a) (φ b)
    have oK : Sto ltK := ⟨fun a => o.irr _, fun h1 h2 => o.tr h1 h2, fun {a b} h3 h4 => by
      have := o.tri h3 h4
      rw [← h2 a, ← h2 b, this]⟩
    have hcK : Lib.compact (xs.map ψ) = setOf ltK (xs.map ψ) := compact_setOf oK (by
      rw [List.pairwise_map]
      refine hs.imp fun {x y} hxy => ?_
      show ¬ lt (φ (ψ y)) (φ (ψ x))
      rw [h1, h1]; exact hxy)
    have hset : (setOf ltK (xs.map ψ)).map φ = setOf lt xs := by
      refine setOf_eq o ?_ fun x => ?_
      · unfold Srt
        rw [List.pairwise_map]
        exact setOf_srt oK (xs.map ψ)
      · rw [List.mem_map]
        constructor
        · rintro ⟨k, hk, rfl⟩
          rw [setOf_mem oK, List.mem_map] at hk
          obtain ⟨x, hx, rfl⟩ := hk
          rw [h1]; exact hx
        · intro hx
          exact ⟨ψ x, by rw [setOf_mem oK]; exact List.mem_map_of_mem hx, h1 x⟩
    have hlen : (Lib.compact (xs.map ψ)).length = (setOf lt xs).length := by rw [← hset, hcK, List.length_map]
    have hle : (Lib.compact (xs.map ψ)).length ≤ xs.length := by
      have := Lib.compact_length_le (xs.map ψ)
      simpa using this
    refine ⟨_, _, rfl, ⟨by rw [hlen], rfl⟩, ?_⟩
    have S3 := S.sortRow (encK := encK) (q := q) (os := #[]) (ys := Lib.compact (xs.map ψ) ++ List.replicate (xs.length - (Lib.compact (xs.map ψ)).length) z) (by simp; omega) (setOf lt xs).length (by omega)
    rw [List.map_append, List.take_append_of_le_length (by simp; omega), List.take_of_length_le (by simp; omega)] at S3
    have e1 : flat e (setOf lt xs) = (Lib.compact (xs.map ψ)).map encK := by
      rw [flat_map1 hc, ← hset, hcK, List.map_map]
      refine List.map_congr_left fun k _ => ?_
      simp [h2]
    rw [e1]
    simpa using S3
end
theorem le_int {a b : Int} (h : decide (a ≤ b) = true) : ¬ ilt b a := by
  simp only [decide_eq_true_eq] at h
  show ¬ b < a
  omega
theorem le_tr_int (a b c : Int) : decide (a ≤ b) = true → decide (b ≤ c) = true → decide (a ≤ c) = true := by
  simp only [decide_eq_true_eq]; omega
theorem le_tot_int (a b : Int) : (decide (a ≤ b) || decide (b ≤ a)) = true := by
  simp only [Bool.or_eq_true, decide_eq_true_eq]; omega
end
section
set_option linter.unusedVariables false
set_option linter.unusedSimpArgs false
open Go.RowKit Classical
/-- What can be read of an order. -/
structure OrdR (W : World) (L : List Res) (o : Order) : Prop where
  rm : RdS W L e_Mark o.f_Marks.a o.f_Marks.xs
  rr : RdS W L e_S o.f_Txn_Reads.a o.f_Txn_Reads.xs
  rw : RdS W L e_S o.f_Txn_Writes.a o.f_Txn_Writes.xs
  ro : RdS W L e_Op o.f_Txn_Ops.a o.f_Txn_Ops.xs
  rv : ∀ x ∈ o.f_Txn_Ops.xs, RdS W L e8 x.f_Value.a x.f_Value.xs
  lm : o.f_Marks.xs.length ≤ 9223372036854775807
  lr : o.f_Txn_Reads.xs.length ≤ 9223372036854775807
  lw : o.f_Txn_Writes.xs.length ≤ 9223372036854775807
  lo : o.f_Txn_Ops.xs.length ≤ 9223372036854775807
  lv : ∀ x ∈ o.f_Txn_Ops.xs, x.f_Value.xs.length ≤ 9223372036854775807
theorem OrdR.c {W : World} {L : List Res} {o : Order} {A : Res} (h : OrdR W L o) : OrdR W (A :: L) o := ⟨rds_c h.rm, rds_c h.rr, rds_c h.rw, rds_c h.ro, fun x hx => rds_c (h.rv x hx), h.lm, h.lr, h.lw, h.lo, h.lv⟩
noncomputable def homes (o : Order) : List Int := if o.f_Marks.xs = [] then [0] else setOf ilt (o.f_Marks.xs.map Mark.f_Home)
def single (o : Order) : Prop := o.f_Txn_Kind = 1 ∧ (homes o).length = 1
abbrev Order.tag (o : Order) : Tag := ⟨o.f_Tag_Id_Node, o.f_Tag_Id_Epoch, o.f_Tag_Id_Seq, o.f_Tag_Try⟩
theorem homes_nil {o : Order} (h : o.f_Marks.xs = []) : homes o = setOf ilt [0] := by unfold homes; rw [if_pos h]; rfl
theorem homes_ne {o : Order} (h : o.f_Marks.xs ≠ []) : homes o = setOf ilt (o.f_Marks.xs.map Mark.f_Home) := by unfold homes; rw [if_neg h]
theorem homes_len (o : Order) : (homes o).length ≤ o.f_Marks.xs.length + 1 := by
  unfold homes
  split
  · simp
  · have := setOf_le ilt_sto (o.f_Marks.xs.map Mark.f_Home)
    rw [List.length_map] at this; omega
theorem map_take_on {α β : Type} {f : α → β} {xs : List α} {ys : List β} {i : Nat} {x : α} (h : ys = (xs.take i).map f) (hx : xs[((i : Int)).toNat]? = some x) : ys ++ [f x] = (xs.take (i + 1)).map f := by
  have hx' : xs[i]? = some x := hx
  rw [h, List.take_add_one, hx']; simp
theorem known_on {α : Type} {xs : List α} {j : Nat} {x h : α} {kn : Bool} (hk : kn = true ↔ h ∈ xs.take j) (hx : xs[((j : Int)).toNat]? = some x) : (kn = true ∨ x = h) ↔ h ∈ xs.take (j + 1) := by
  have hx' : xs[j]? = some x := hx
  rw [List.take_add_one, hx', List.mem_append, ← hk]
  simp [eq_comm]
theorem homes_e {o : Order} (h : setOf ilt (o.f_Marks.xs.map Mark.f_Home) = []) : homes o = [0] := by
  unfold homes
  split
  · rfl
  · rename_i hn
    cases hm : o.f_Marks.xs with
    | nil => exact absurd hm hn
    | cons m ms =>
      have h6 : m.f_Home ∈ setOf ilt (o.f_Marks.xs.map Mark.f_Home) := (setOf_mem ilt_sto).2 (by rw [hm]; simp)
      rw [h] at h6; cases h6
theorem known_t {α : Type} {xs : List α} {j : Nat} {h : α} {kn : Bool} (hk : kn = true ↔ h ∈ xs.take j) (ht : kn = true) : true = true ↔ h ∈ xs.take (j + 1) := by
  have h1 := hk.1 ht
  refine ⟨fun _ => ?_, fun _ => rfl⟩
  rw [List.take_add_one]
  exact List.mem_append_left _ h1
theorem known_f {α : Type} {xs : List α} {j : Nat} {x h : α} {kn : Bool} {i : Decidable (x = h)} (hk : kn = true ↔ h ∈ xs.take j) (hf : kn = false) (hx : xs[((j : Int)).toNat]? = some x) : @decide (x = h) i = true ↔ h ∈ xs.take (j + 1) := by
  rw [decide_eq_true_eq, ← known_on hk hx, hf]; simp
theorem sTake_in {α β : Type} {lt : β → β → Prop} {f : α → β} (o : Sto lt) {xs : List α} {out : List β} {i : Nat} {x : α} (h : out = setOf lt ((xs.take i).map f)) (hx : xs[((i : Int)).toNat]? = some x) (hm : f x ∈ out) : out = setOf lt ((xs.take (i + 1)).map f) := by
  rw [← map_take_on rfl hx, setOf_snoc, ins_in o (setOf_srt o _) (by rw [← h]; exact hm)]; exact h
theorem sTake_on {α β : Type} {lt : β → β → Prop} {f : α → β} (o : Sto lt) {xs : List α} {out : List β} {i : Nat} {x : α} (h : out = setOf lt ((xs.take i).map f)) (hx : xs[((i : Int)).toNat]? = some x) : ins id lt (f x) out = setOf lt ((xs.take (i + 1)).map f) := by
  rw [← map_take_on rfl hx, setOf_snoc, ← h]
theorem ins_step' {α : Type} {lt : α → α → Prop} {out cur : List α} {x x1 y1 : α} {k : Nat} (h0 : 0 < k) (h : InsAt lt out x k cur) (hx : cur[((k : Int)).toNat]? = some x1) (hy : cur[((k : Int) - 1).toNat]? = some y1) (hl : lt x1 y1) : InsAt lt out x (k - 1) ((cur.set ((k : Int)).toNat y1).set ((k : Int) - 1).toNat x1) := by
  obtain ⟨j, rfl⟩ : ∃ j, k = j + 1 := ⟨k - 1, by omega⟩
  rw [show (((j + 1 : Nat) : Int) - 1).toNat = j by omega] at hy ⊢
  exact insAt_on h hx hy hl
theorem insAt_end' {α : Type} {lt : α → α → Prop} (o : Sto lt) {out cur : List α} {x x1 y1 : α} {k : Nat} (h : InsAt lt out x k cur) (hs : Srt id lt out) (hn : ¬ x ∈ out) (h0 : 0 < k) (hx : cur[((k : Int)).toNat]? = some x1) (hy : cur[((k : Int) - 1).toNat]? = some y1) (hl : ¬ lt x1 y1) : cur = ins id lt x out :=
  insAt_end o h hs hn (.inr ⟨x1, y1, hx, by rw [show ((k : Int) - 1).toNat = k - 1 by omega] at hy; exact hy, hl⟩)
theorem insAt_end0 {α : Type} {lt : α → α → Prop} (o : Sto lt) {out cur : List α} {x : α} {k : Nat} (h : InsAt lt out x k cur) (hs : Srt id lt out) (hn : ¬ x ∈ out) (h0 : k ≤ 0) : cur = ins id lt x out :=
  insAt_end o h hs hn (.inl (by omega))
/-- More than is looked at? -/
structure OSmall (o : Order) : Prop where
  r : o.f_Txn_Reads.xs.length ≤ 40
  w : o.f_Txn_Writes.xs.length ≤ 40
  ol : o.f_Txn_Ops.xs.length ≤ 60
  m : o.f_Marks.xs.length ≤ 60
  tr : ∀ x ∈ o.f_Txn_Reads.xs, x.size ≤ 200
  tw : ∀ x ∈ o.f_Txn_Writes.xs, x.size ≤ 200
  tm : ∀ x ∈ o.f_Marks.xs, x.f_Key.size ≤ 200
  os : ∀ x ∈ o.f_Txn_Ops.xs, x.f_Key.size ≤ 200 ∧ x.f_Value.xs.length ≤ 200
def UpTo {α : Type} (p : α → Prop) (xs : List α) (i : Nat) : Prop := ∀ j x, j < i → xs[j]? = some x → p x
theorem upTo_0 {α : Type} {p : α → Prop} {xs : List α} : UpTo p xs 0 := fun j x h => absurd h (by omega)
theorem upTo_on {α : Type} {p : α → Prop} {xs : List α} {i : Nat} {x : α} (h : UpTo p xs i) (hx : xs[((i : Int)).toNat]? = some x) (hp : p x) : UpTo p xs (i + 1) := fun j y hj hy => by
  have hx' : xs[i]? = some x := hx
  by_cases hji : j < i
  · exact h j y hji hy
  · obtain rfl : j = i := by omega
    rw [hx'] at hy; cases hy; exact hp
theorem upTo_all {α : Type} {p : α → Prop} {xs : List α} {i : Nat} (h : UpTo p xs i) (hi : xs.length ≤ i) : ∀ x ∈ xs, p x := fun x hx => by
  obtain ⟨j, hj, rfl⟩ := List.mem_iff_getElem.1 hx
  exact h j _ (by omega) (List.getElem?_eq_getElem hj)
end
section
set_option linter.unusedVariables false
open Go.Shelf Go.RowKit
def lays189_ren : Go.Shelf.Ren := ⟨fun | 189 => 35 | 125 => 44 | 257 => 43 | 128 => 58 | 129 => 59 | 294 => 49 | 295 => 50 | 296 => 51 | 297 => 52 | 298 => 53 | 299 => 54 | 216 => 55 | 300 => 56 | 301 => 57 | 328 => 68 | 329 => 69 | 330 => 70 | 331 => 71 | 332 => 72 | 215 => 47 | 343 => 76 | n => n, fun | 28 => 66 | 3 => 3 | 46 => 87 | 0 => 0 | 51 => 102 | 53 => 28 | 4 => 4 | 183 => 94 | 182 => 93 | 131 => 99 | 5 => 5 | 9 => 9 | 218 => 109 | 222 => 113 | 228 => 117 | 229 => 118 | n => n, fun | n => n⟩
theorem lays189 : Go.Proofs.Lays.n189 Try.prog lays189_ren := {
  mixed := by kernel_rfl
  f125 := Try.func44.trans (congrArg some (by kernel_rfl))
  f128 := Try.func58.trans (congrArg some (by kernel_rfl))
  f129 := Try.func59.trans (congrArg some (by kernel_rfl))
  f189 := Try.func35.trans (congrArg some (by kernel_rfl))
  f215 := Try.func47.trans (congrArg some (by kernel_rfl))
  f216 := Try.func55.trans (congrArg some (by kernel_rfl))
  f257 := Try.func43.trans (congrArg some (by kernel_rfl))
  f294 := Try.func49.trans (congrArg some (by kernel_rfl))
  f295 := Try.func50.trans (congrArg some (by kernel_rfl))
  f296 := Try.func51.trans (congrArg some (by kernel_rfl))
  f297 := Try.func52.trans (congrArg some (by kernel_rfl))
  f298 := Try.func53.trans (congrArg some (by kernel_rfl))
  f299 := Try.func54.trans (congrArg some (by kernel_rfl))
  f300 := Try.func56.trans (congrArg some (by kernel_rfl))
  f301 := Try.func57.trans (congrArg some (by kernel_rfl))
  f328 := Try.func68.trans (congrArg some (by kernel_rfl))
  f329 := Try.func69.trans (congrArg some (by kernel_rfl))
  f330 := Try.func70.trans (congrArg some (by kernel_rfl))
  f331 := Try.func71.trans (congrArg some (by kernel_rfl))
  f332 := Try.func72.trans (congrArg some (by kernel_rfl))
  f343 := Try.func76.trans (congrArg some (by kernel_rfl))
  t0 := Try.underlying0
  a0 := Try.isAgg0
  z0 := Try.sizeOf0
  v0 := Try.zeroValue0
  t3 := Try.underlying3
  a3 := Try.isAgg3
  z3 := Try.sizeOf3
  v3 := Try.zeroValue3
  t4 := Try.underlying4
  a4 := Try.isAgg4
  z4 := Try.sizeOf4
  v4 := Try.zeroValue4
  t5 := Try.underlying5
  a5 := Try.isAgg5
  z5 := Try.sizeOf5
  v5 := Try.zeroValue5
  t9 := Try.underlying9
  a9 := Try.isAgg9
  z9 := Try.sizeOf9
  v9 := Try.zeroValue9
  t28 := Try.underlying66
  a28 := Try.isAgg66
  z28 := Try.sizeOf66
  v28 := Try.zeroValue66
  t46 := Try.underlying87
  a46 := Try.isAgg87
  z46 := Try.sizeOf87
  v46 := Try.zeroValue87
  t51 := Try.underlying102
  a51 := Try.isAgg102
  z51 := Try.sizeOf102
  v51 := Try.zeroValue102
  t53 := Try.underlying28
  a53 := Try.isAgg28
  z53 := Try.sizeOf28
  v53 := Try.zeroValue28
  t131 := Try.underlying99
  a131 := Try.isAgg99
  z131 := Try.sizeOf99
  v131 := Try.zeroValue99
  t182 := Try.underlying93
  a182 := Try.isAgg93
  z182 := Try.sizeOf93
  v182 := Try.zeroValue93
  t183 := Try.underlying94
  a183 := Try.isAgg94
  z183 := Try.sizeOf94
  v183 := Try.zeroValue94
  t218 := Try.underlying109
  a218 := Try.isAgg109
  z218 := Try.sizeOf109
  v218 := Try.zeroValue109
  t222 := Try.underlying113
  a222 := Try.isAgg113
  z222 := Try.sizeOf113
  v222 := Try.zeroValue113
  t228 := Try.underlying117
  a228 := Try.isAgg117
  z228 := Try.sizeOf117
  v228 := Try.zeroValue117
  t229 := Try.underlying118
  a229 := Try.isAgg118
  z229 := Try.sizeOf118
  v229 := Try.zeroValue118 }
def laysNm220_ren : Go.Shelf.Ren := ⟨fun | 20 => 36 | n => n, fun | 22 => 66 | 3 => 3 | 4 => 4 | 0 => 0 | n => n, fun | n => n⟩
theorem laysNm220 : Go.Proofs.Lays2.n20 Try.prog laysNm220_ren := {
  mixed := by kernel_rfl
  f20 := Try.func36.trans (congrArg some (by kernel_rfl))
  t0 := Try.underlying0
  a0 := Try.isAgg0
  z0 := Try.sizeOf0
  v0 := Try.zeroValue0
  t3 := Try.underlying3
  a3 := Try.isAgg3
  z3 := Try.sizeOf3
  v3 := Try.zeroValue3
  t4 := Try.underlying4
  a4 := Try.isAgg4
  z4 := Try.sizeOf4
  v4 := Try.zeroValue4
  t22 := Try.underlying66
  a22 := Try.isAgg66
  z22 := Try.sizeOf66
  v22 := Try.zeroValue66
  i3 := by kernel_rfl }
theorem sortI {W : World} {L : List Res} {e : Enc Int} (hc : e.cells = fun x => [.int .i64 x]) (hz : e.sz = 1) {a : Option Addr} {c : Nat} {xs : List Int} (hl : xs.length < 4611686018427387904) :
    CS Try.prog 35 #[.slice a xs.length c] W (row e.T e.sz a xs.length c (flat e xs) :: L) fun v L' => ∃ ys, ys.Perm xs ∧ ys.Pairwise (fun a b => ¬ ilt b a) ∧ v = .tuple #[] ∧ L' = row e.T e.sz a ys.length c (flat e ys) :: L :=
  cs_sort (κ := Int) (encK := Value.int .i64) (ψ := id) (φ := id) (le := fun x y => decide (x ≤ y)) hc hz (fun x => rfl) (fun k => rfl) (fun a b h => le_int h) le_tr_int le_tot_int (fun blk off cap ss w => Any.slices_Sort_int lays189 blk off cap ss w) (fun p cap w => Any.slices_Sort_int_none lays189 p cap w) hl
theorem compactI {W : World} {L : List Res} {e : Enc Int} (hc : e.cells = fun x => [.int .i64 x]) (hz : e.sz = 1) {a : Option Addr} {c : Nat} {xs : List Int} (hs : xs.Pairwise fun a b => ¬ ilt b a) (hl : xs.length ≤ 9223372036854775807) :
    CS Try.prog 36 #[.slice a xs.length c] W (row e.T e.sz a xs.length c (flat e xs) :: L) fun v L' => v = .slice a (setOf ilt xs).length c ∧ L' = row e.T e.sz a (setOf ilt xs).length c (flat e (setOf ilt xs)) :: L :=
  cs_compact (κ := Int) (encK := Value.int .i64) (ψ := id) (φ := id) (z := 0) ilt_sto hc hz (fun x => rfl) (fun k => rfl) (fun blk off cap zs w => Any.slices_Compact_int laysNm220 blk off cap zs w) (fun p cap w => Any.slices_Compact_int_empty laysNm220 p cap w) hs hl
end
section
set_option linter.unusedVariables false
set_option linter.unusedSimpArgs false
set_option maxRecDepth 10000
open Go.RowKit Classical
theorem vtrue' {p : Prop} {i : Decidable p} (h : p) : Value.bool true = Value.bool (@decide p i) := by rw [decide_eq_true h]
theorem vfalse' {p : Prop} {i : Decidable p} (h : ¬ p) : Value.bool false = Value.bool (@decide p i) := by rw [decide_eq_false h]
theorem bdec' {p q : Prop} {i : Decidable p} {j : Decidable q} (h : q ↔ p) : Value.bool (@decide p i) = Value.bool (@decide q j) := by
  by_cases hp : p
  · rw [decide_eq_true hp, decide_eq_true (h.2 hp)]
  · rw [decide_eq_false hp, decide_eq_false (fun hq => hp (h.1 hq))]
theorem notin_on' {α : Type} {xs : List α} {key x : α} {i : Nat} (h : ∀ j x, j < i → xs[j]? = some x → x ≠ key) (hx : xs[((i : Int)).toNat]? = some x) (hn : ¬ x = key) : ∀ j x, j < i + 1 → xs[j]? = some x → x ≠ key := fun j y hj hy => by
  have hx' : xs[i]? = some x := hx
  by_cases hji : j < i
  · exact h j y hji hy
  · obtain rfl : j = i := by omega
    rw [hx'] at hy; cases hy; exact hn
theorem notin_all' {α : Type} {xs : List α} {key : α} {i : Nat} (h : ∀ j x, j < i → xs[j]? = some x → x ≠ key) (hi : xs.length ≤ i) : ¬ key ∈ xs := fun hm => by
  obtain ⟨j, hj, rfl⟩ := List.mem_iff_getElem.1 hm
  exact h j _ (by omega) (List.getElem?_eq_getElem hj) rfl
theorem indexI_ {W : World} {F : List Res} {xs : List Int} {a : Option Addr} {c : Nat} (hs : RdS W F e_I a xs) (hn : xs.length ≤ 9223372036854775807) {key : Int} : CS Try.prog 34 #[.slice a xs.length c, .int .i64 key] W (F) (fun r L' => ∃ n : Int, (0 ≤ n ↔ key ∈ xs) ∧ r = .int .i64 n ∧ F = L') := by
 refine f_door (l0 := [(0, .slice a xs.length c), (1, .int .i64 key)]) Try.func34 Try.ntmps34 rfl rfl rfl ?_
 refine c_seq ?_
 refine c_region ?_
 refine o_assign rfl rfl ?_
 refine l_nil ?_
 refine q_then ?_
 refine c_seq ?_
 refine c_seq ?_
 refine c_region ?_
 refine o_move rfl rfl ?_
 refine o_len rfl rfl Try.underlying66 ?_
 refine o_move rfl rfl ?_
 refine l_nil ?_
 refine q_then ?_
 refine c_block ?_
 refine c_loop (α := Nat) (fun z => [(0, .slice a (xs).length c), (1, .int .i64 key), (7, .int .i64 ((xs).length : Int)), (8, .int .i64 (z : Int))]) (fun z => F) (fun z => z ≤ xs.length ∧ ∀ j x, j < z → xs[j]? = some x → x ≠ key) (fun z => xs.length - z) (0) (by exact ⟨Nat.zero_le _, fun j x h => absurd h (by omega)⟩) ⟨(by first | rfl | exact vint (by omega)), (by first | rfl | exact vint (by omega)), (by first | rfl | exact vint (by omega)), (by first | rfl | exact vint (by omega)), trivial⟩ (fun w S => S) ?_
 rintro i ⟨hi, hno⟩
 try dsimp only at *
 refine c_seq ?_
 refine c_region ?_
 refine o_bin rfl rfl rfl b_lss ?_
 refine l_nil ?_
 refine q_then ?_
 refine c_seq ?_
 refine c_cond rfl (fun h1 => ?_) (fun h1 => ?_)
 · -- h1T
  have h1b := h1
  try simp only [decide_eq_true_eq] at h1
  refine c_skip ?_
  refine q_then ?_
  refine c_seq ?_
  refine c_block ?_
  refine c_seq ?_
  refine c_region ?_
  refine o_move rfl rfl ?_
  refine o_assign rfl rfl ?_
  refine l_nil ?_
  refine q_then ?_
  refine c_seq ?_
  refine c_region ?_
  refine o_move rfl rfl ?_
  refine o_move rfl rfl ?_
  refine o_move rfl rfl ?_
  refine o_index e_I_ok rfl rfl rfl Try.underlying66 (by omega) (by omega) hs fun ad14 ead14 => ?_
  obtain ⟨x14, hx14⟩ : ∃ x, (xs)[((i : Int)).toNat]? = some x := ⟨_, List.getElem?_eq_getElem (by omega)⟩
  refine o_load1 rfl rfl Try.underlying3 rfl (rd_sl0 e_I_ok ead14 hs hx14 rfl) ?_
  refine o_bin rfl rfl rfl b_eql ?_
  refine l_nil ?_
  refine q_then ?_
  refine c_cond rfl (fun h2 => ?_) (fun h2 => ?_)
  · -- h2T
   have h2b := h2
   try simp only [decide_eq_true_eq] at h2
   refine c_seq ?_
   refine c_region ?_
   refine o_move rfl rfl ?_
   refine o_assign rfl rfl ?_
   refine l_nil ?_
   refine q_then ?_
   refine c_ret ?_
   refine q_block_ret ?_
   refine q_pass_ret ?_
   refine q_pass_ret ?_
   refine q_block_ret ?_
   refine q_pass_ret ?_
   exact f_ret (r_one rfl rfl) (⟨(i : Int), ⟨fun _ => by subst h2; exact List.mem_of_getElem? hx14, fun _ => by omega⟩, rfl, rfl⟩) (fun w S => S)
  · -- h2F
   have h2b := h2
   try simp only [decide_eq_false_iff_not, Int.not_lt, Int.not_le] at h2
   have hne : ¬ x14 = key := fun h9 => h2 h9.symm
   refine c_skip ?_
   refine q_block ?_
   refine q_then ?_
   refine c_region ?_
   refine o_bin rfl rfl rfl (b_add (wrap_i64 (by omega) (by omega))) ?_
   refine o_move rfl rfl ?_
   refine l_nil ?_
   exact q_round (i + 1) (by exact ⟨by omega, notin_on' hno hx14 hne⟩) (by (try dsimp only); omega) ⟨(by first | rfl | exact vint (by omega)), (by first | rfl | exact vint (by omega)), (by first | rfl | exact vint (by omega)), (by first | rfl | exact vint (by omega)), trivial⟩ (fun w S => S)
 · -- h1F
  have h1b := h1
  try simp only [decide_eq_false_iff_not, Int.not_lt, Int.not_le] at h1
  refine c_exit ?_
  refine q_pass_exit ?_
  refine q_pass_exit ?_
  refine q_hit ?_
  refine q_then ?_
  refine c_seq ?_
  refine c_region ?_
  refine o_assign rfl rfl ?_
  refine l_nil ?_
  refine q_then ?_
  refine c_ret ?_
  exact f_ret (r_one rfl rfl) (⟨-1, ⟨fun h9 => absurd h9 (by decide), fun h9 => absurd h9 (notin_all' hno (by omega))⟩, rfl, rfl⟩) (fun w S => S)
theorem containsI_ {W : World} {F : List Res} {xs : List Int} {a : Option Addr} {c : Nat} (hs : RdS W F e_I a xs) (hn : xs.length ≤ 9223372036854775807) {key : Int} : CS Try.prog 25 #[.slice a (xs).length c, .int .i64 key] W (F) (fun r L' => r = .bool (decide (key ∈ xs)) ∧ F = L') := by
 refine f_door (l0 := [(0, .slice a (xs).length c), (1, .int .i64 key)]) Try.func25 Try.ntmps25 rfl rfl rfl ?_
 refine c_seq ?_
 refine c_region ?_
 refine o_assign rfl rfl ?_
 refine l_nil ?_
 refine q_then ?_
 refine c_seq ?_
 refine c_region ?_
 refine o_move rfl rfl ?_
 refine o_move rfl rfl ?_
 refine o_call rfl cal34 rfl (indexI_ (key := key) hs (by omega)) ?_
 rintro _ _ ⟨n7, hn7, rfl, rfl⟩
 refine o_bin rfl rfl rfl b_geq ?_
 refine o_assign rfl rfl ?_
 refine l_nil ?_
 refine q_then ?_
 refine c_ret ?_
 exact f_ret (r_one rfl rfl) (⟨by rw [decide_eq_decide.2 hn7], rfl⟩) (fun w S => S)
end
section
set_option linter.unusedVariables false
set_option linter.unusedSimpArgs false
set_option maxRecDepth 10000
open Go.RowKit Classical
theorem homes_ {W : World} {F : List Res} {o : Order} (T_o : OrdR W F o) (hm : o.f_Marks.xs.length ≤ 1000000) : CS Try.prog 26 #[.agg #[.int .i64 o.f_Tag_Id_Node, .int .u64 o.f_Tag_Id_Epoch, .int .u64 o.f_Tag_Id_Seq, .int .i64 o.f_Tag_Try, .int .i64 o.f_Txn_Kind, .slice o.f_Txn_Reads.a (o.f_Txn_Reads.xs).length o.f_Txn_Reads.c, .slice o.f_Txn_Writes.a (o.f_Txn_Writes.xs).length o.f_Txn_Writes.c, .slice o.f_Txn_Ops.a (o.f_Txn_Ops.xs).length o.f_Txn_Ops.c, .int .i64 o.f_Txn_To, .slice o.f_Marks.a (o.f_Marks.xs).length o.f_Marks.c]] W (F) (fun r L' => ∃ (a : Option Addr) (c : Nat), r = .slice a (homes o).length c ∧ L' = row e_I.T e_I.sz a (homes o).length c (flat e_I (homes o)) :: F) := by
 refine f_door (l0 := [(0, .agg #[.int .i64 o.f_Tag_Id_Node, .int .u64 o.f_Tag_Id_Epoch, .int .u64 o.f_Tag_Id_Seq, .int .i64 o.f_Tag_Try, .int .i64 o.f_Txn_Kind, .slice o.f_Txn_Reads.a (o.f_Txn_Reads.xs).length o.f_Txn_Reads.c, .slice o.f_Txn_Writes.a (o.f_Txn_Writes.xs).length o.f_Txn_Writes.c, .slice o.f_Txn_Ops.a (o.f_Txn_Ops.xs).length o.f_Txn_Ops.c, .int .i64 o.f_Txn_To, .slice o.f_Marks.a (o.f_Marks.xs).length o.f_Marks.c])]) Try.func26 Try.ntmps26 rfl rfl rfl ?_
 refine c_seq ?_
 refine c_region ?_
 refine o_box rfl rfl fun b1 => ?_
 refine o_assign rfl rfl ?_
 refine l_nil ?_
 refine q_then ?_
 refine c_seq ?_
 refine c_seq ?_
 refine c_nilrow e_I ?_
 refine c_region ?_
 refine o_fieldAddr (q := ⟨b1, 9, none⟩) rfl rfl Try.underlying39 rfl ti37 rfl ?_
 refine o_load1 rfl rfl Try.underlying37 rfl (rd_mem 1 rfl rfl) ?_
 refine o_len rfl rfl Try.underlying37 ?_
 refine o_move rfl rfl ?_
 refine l_nil ?_
 refine q_then ?_
 refine c_block ?_
 refine c_loop (α := Nat × (List Int) × (Option Addr) × Nat) (fun z => [(2, .slice z.2.2.1 (z.2.1).length z.2.2.2), (6, .slice o.f_Marks.a (o.f_Marks.xs).length o.f_Marks.c), (7, .int .i64 ((o.f_Marks.xs).length : Int)), (8, .int .i64 (z.1 : Int))]) (fun z => row e_I.T e_I.sz z.2.2.1 (z.2.1).length z.2.2.2 (flat e_I z.2.1) :: blk b1 (.cells #[.int .i64 o.f_Tag_Id_Node, .int .u64 o.f_Tag_Id_Epoch, .int .u64 o.f_Tag_Id_Seq, .int .i64 o.f_Tag_Try, .int .i64 o.f_Txn_Kind, .slice o.f_Txn_Reads.a (o.f_Txn_Reads.xs).length o.f_Txn_Reads.c, .slice o.f_Txn_Writes.a (o.f_Txn_Writes.xs).length o.f_Txn_Writes.c, .slice o.f_Txn_Ops.a (o.f_Txn_Ops.xs).length o.f_Txn_Ops.c, .int .i64 o.f_Txn_To, .slice o.f_Marks.a (o.f_Marks.xs).length o.f_Marks.c] 39 (0, 0)) :: F) (fun z => z.1 ≤ o.f_Marks.xs.length ∧ z.2.1 = (o.f_Marks.xs.take z.1).map Mark.f_Home) (fun z => o.f_Marks.xs.length - z.1) (0, [], none, 0) (by exact ⟨Nat.zero_le _, rfl⟩) ⟨(by first | rfl | exact vint (by omega)), (by first | rfl | exact vint (by omega)), (by first | rfl | exact vint (by omega)), (by first | rfl | exact vint (by omega)), trivial⟩ (fun w S => S) ?_
 rintro ⟨i, hs, a2, c2⟩ ⟨hi, hh⟩
 try dsimp only at *
 have hhl : hs.length = i := by rw [hh, List.length_map, List.length_take]; omega
 refine c_seq ?_
 refine c_region ?_
 refine o_bin rfl rfl rfl b_lss ?_
 refine l_nil ?_
 refine q_then ?_
 refine c_seq ?_
 refine c_cond rfl (fun h1 => ?_) (fun h1 => ?_)
 · -- h1T
  have h1b := h1
  try simp only [decide_eq_true_eq] at h1
  refine c_skip ?_
  refine q_then ?_
  refine c_seq ?_
  refine c_block ?_
  refine c_seq ?_
  refine c_region ?_
  refine o_index e_Mark_ok rfl rfl rfl Try.underlying37 (by omega) (by omega) (OrdR.c (OrdR.c T_o)).rm fun ad10 ead10 => ?_
  obtain ⟨x10, hx10⟩ : ∃ x, (o.f_Marks.xs)[((i : Int)).toNat]? = some x := ⟨_, List.getElem?_eq_getElem (by omega)⟩
  refine o_loadn (vs := e_Mark.cells x10) rfl rfl Try.underlying61 rfl ti61 (rdn_sl e_Mark_ok ead10 (OrdR.c (OrdR.c T_o)).rm hx10) ?_
  refine o_alloc rfl ti61 fun b4 => ?_
  refine o_storen rfl rfl ti61 rfl rfl rfl rfl ?_
  refine l_nil ?_
  refine q_then ?_
  refine c_region ?_
  refine o_move rfl rfl ?_
  refine o_fieldAddr (q := ⟨b4, 1, none⟩) rfl rfl Try.underlying61 rfl ti3 rfl ?_
  refine o_load1 rfl rfl Try.underlying3 rfl (rd_mem 0 rfl rfl) ?_
  refine o_lit e_I_ok rfl Try.underlying66 rfl rfl rfl (lit_ok rfl) [x10.f_Home] rfl rfl fun a15 => ?_
  refine l_f2 ?_
  refine o_append e_I_ok rfl rfl rfl Try.underlying66 (rds_own e_I_ok 1 rfl) (by show (_ + _) * 8 ≤ _; (try simp only [List.length_append, List.length_cons, List.length_nil]); omega) (by (try simp only [List.length_append, List.length_cons, List.length_nil]); omega) fun a16 c16 => ?_
  refine l_f1 ?_
  refine l_drop ?_
  refine o_assign rfl rfl ?_
  refine l_nil ?_
  refine q_block ?_
  refine q_then ?_
  refine c_region ?_
  refine o_bin rfl rfl rfl (b_add (wrap_i64 (by omega) (by omega))) ?_
  refine o_move rfl rfl ?_
  refine l_nil ?_
  refine q_conv (fun w S => (S.perm p1).tail) ?_
  exact q_round (i + 1, hs ++ [x10.f_Home], a16, c16) (by exact ⟨by omega, map_take_on hh hx10⟩) (by (try dsimp only); omega) ⟨(by first | rfl | exact vint (by omega)), (by first | rfl | exact vint (by omega)), (by first | rfl | exact vint (by omega)), (by first | rfl | exact vint (by omega)), trivial⟩ (fun w S => S)
 · -- h1F
  have h1b := h1
  try simp only [decide_eq_false_iff_not, Int.not_lt, Int.not_le] at h1
  refine c_exit ?_
  refine q_pass_exit ?_
  refine q_pass_exit ?_
  refine q_hit ?_
  refine q_then ?_
  refine c_seq ?_
  refine c_seq ?_
  refine c_region ?_
  refine o_move rfl rfl ?_
  refine o_len rfl rfl Try.underlying66 ?_
  refine o_bin rfl rfl rfl b_eql ?_
  refine l_nil ?_
  refine q_then ?_
  refine c_cond rfl (fun h2 => ?_) (fun h2 => ?_)
  · -- h2T
   have h2b := h2
   try simp only [decide_eq_true_eq] at h2
   have hnil : o.f_Marks.xs = [] := List.eq_nil_of_length_eq_zero (by omega)
   refine c_region ?_
   refine o_lit e_I_ok rfl Try.underlying66 rfl rfl rfl (lit_ok rfl) [0] rfl rfl fun a21 => ?_
   refine o_assign rfl rfl ?_
   refine l_nil ?_
   refine q_then ?_
   refine c_seq ?_
   refine c_region ?_
   refine o_move rfl rfl ?_
   refine o_call rfl cal35 rfl (sortI (e := e_I) (a := a21) (c := 1) (xs := [0]) rfl rfl (by first | omega | (simp only [List.length_cons, List.length_nil]; omega))) ?_
   rintro _ _ ⟨ys23, hp23, hs23, rfl, rfl⟩
   have hl23 := hp23.length_eq
   refine l_eq (t := 2) (v' := .slice a21 (ys23).length 1) rfl (by rw [hl23]) ?_
   refine l_eq (t := 21) (v' := .slice a21 (ys23).length 1) rfl (by rw [hl23]) ?_
   refine l_eq (t := 22) (v' := .slice a21 (ys23).length 1) rfl (by rw [hl23]) ?_
   refine l_nil ?_
   refine q_then ?_
   refine c_seq ?_
   refine c_region ?_
   refine o_move rfl rfl ?_
   refine o_call rfl cal36 rfl (compactI (e := e_I) (a := a21) (c := 1) (xs := ys23) rfl rfl hs23 (by first | omega | (rw [hl23]; simp only [List.length_cons, List.length_nil]; omega))) ?_
   rintro _ _ ⟨rfl, rfl⟩
   refine o_assign rfl rfl ?_
   refine l_nil ?_
   refine q_then ?_
   refine c_ret ?_
   refine q_conv (fun w S => (S.perm p1).tail) ?_
   refine q_conv (fun w S => (S.perm p1).tail) ?_
   exact f_ret (r_one rfl rfl) (⟨a21, 1, by rw [setOf_perm ilt_sto hp23, ← homes_nil hnil], by rw [setOf_perm ilt_sto hp23, ← homes_nil hnil]⟩) (fun w S => S)
  · -- h2F
   have h2b := h2
   try simp only [decide_eq_false_iff_not, Int.not_lt, Int.not_le] at h2
   have hhome : homes o = setOf ilt hs := by rw [homes_ne (fun h9 => by have h8 := congrArg List.length h9; simp only [List.length_nil] at h8; omega), hh, List.take_of_length_le (by omega)]
   refine c_skip ?_
   refine q_then ?_
   refine c_seq ?_
   refine c_region ?_
   refine o_move rfl rfl ?_
   refine o_call rfl cal35 rfl (sortI (e := e_I) (a := a2) (c := c2) (xs := hs) rfl rfl (by first | omega | (simp only [List.length_cons, List.length_nil]; omega))) ?_
   rintro _ _ ⟨ys23, hp23, hs23, rfl, rfl⟩
   have hl23 := hp23.length_eq
   refine l_eq (t := 2) (v' := .slice a2 (ys23).length c2) rfl (by rw [hl23]) ?_
   refine l_eq (t := 18) (v' := .slice a2 (ys23).length c2) rfl (by rw [hl23]) ?_
   refine l_eq (t := 22) (v' := .slice a2 (ys23).length c2) rfl (by rw [hl23]) ?_
   refine l_nil ?_
   refine q_then ?_
   refine c_seq ?_
   refine c_region ?_
   refine o_move rfl rfl ?_
   refine o_call rfl cal36 rfl (compactI (e := e_I) (a := a2) (c := c2) (xs := ys23) rfl rfl hs23 (by first | omega | (rw [hl23]; simp only [List.length_cons, List.length_nil]; omega))) ?_
   rintro _ _ ⟨rfl, rfl⟩
   refine o_assign rfl rfl ?_
   refine l_nil ?_
   refine q_then ?_
   refine c_ret ?_
   refine q_conv (fun w S => (S.perm p1).tail) ?_
   exact f_ret (r_one rfl rfl) (⟨a2, c2, by rw [setOf_perm ilt_sto hp23, ← hhome], by rw [setOf_perm ilt_sto hp23, ← hhome]⟩) (fun w S => S)
theorem single_ {W : World} {F : List Res} {o : Order} (T_o : OrdR W F o) (hm : o.f_Marks.xs.length ≤ 1000000) : CS Try.prog 27 #[.agg #[.int .i64 o.f_Tag_Id_Node, .int .u64 o.f_Tag_Id_Epoch, .int .u64 o.f_Tag_Id_Seq, .int .i64 o.f_Tag_Try, .int .i64 o.f_Txn_Kind, .slice o.f_Txn_Reads.a (o.f_Txn_Reads.xs).length o.f_Txn_Reads.c, .slice o.f_Txn_Writes.a (o.f_Txn_Writes.xs).length o.f_Txn_Writes.c, .slice o.f_Txn_Ops.a (o.f_Txn_Ops.xs).length o.f_Txn_Ops.c, .int .i64 o.f_Txn_To, .slice o.f_Marks.a (o.f_Marks.xs).length o.f_Marks.c]] W (F) (fun r L' => r = .bool (decide (single o)) ∧ F = L') := by
 refine f_door (l0 := [(0, .agg #[.int .i64 o.f_Tag_Id_Node, .int .u64 o.f_Tag_Id_Epoch, .int .u64 o.f_Tag_Id_Seq, .int .i64 o.f_Tag_Try, .int .i64 o.f_Txn_Kind, .slice o.f_Txn_Reads.a (o.f_Txn_Reads.xs).length o.f_Txn_Reads.c, .slice o.f_Txn_Writes.a (o.f_Txn_Writes.xs).length o.f_Txn_Writes.c, .slice o.f_Txn_Ops.a (o.f_Txn_Ops.xs).length o.f_Txn_Ops.c, .int .i64 o.f_Txn_To, .slice o.f_Marks.a (o.f_Marks.xs).length o.f_Marks.c])]) Try.func27 Try.ntmps27 rfl rfl rfl ?_
 refine c_seq ?_
 refine c_region ?_
 refine o_box rfl rfl fun b1 => ?_
 refine o_assign rfl rfl ?_
 refine l_nil ?_
 refine q_then ?_
 refine c_seq ?_
 refine c_region ?_
 refine o_fieldAddr (q := ⟨b1, 4, none⟩) rfl rfl Try.underlying39 rfl ti36 rfl ?_
 refine o_fieldAddr (q := ⟨b1, 4, none⟩) rfl rfl Try.underlying36 rfl ti3 rfl ?_
 refine o_load1 rfl rfl Try.underlying3 rfl (rd_mem 0 rfl rfl) ?_
 refine o_bin rfl rfl rfl b_eql ?_
 refine o_move rfl rfl ?_
 refine l_split (t := 7) rfl (fun h1 => ?_) (fun h1 => ?_)
 · -- h1T
  have h1b := h1
  try simp only [decide_eq_true_eq] at h1
  refine o_yes rfl rfl rfl ?_
  refine o_loadn (vs := [_, _, _, _, _, _, _, _, _, _]) rfl rfl Try.underlying39 rfl ti39 (rdn_lit 0 rfl rfl) ?_
  refine o_yes rfl rfl rfl ?_
  refine o_call rfl cal26 rfl (homes_ (o := o) (OrdR.c T_o) (by omega)) ?_
  rintro _ _ ⟨a9, c9, rfl, rfl⟩
  have hhl9 := homes_len o
  refine o_yes rfl rfl rfl ?_
  refine o_len rfl rfl Try.underlying66 ?_
  refine o_yes rfl rfl rfl ?_
  refine o_bin rfl rfl rfl b_eql ?_
  refine o_pick_true rfl rfl rfl ?_
  refine o_assign rfl rfl ?_
  refine l_nil ?_
  refine q_then ?_
  refine c_ret ?_
  refine q_conv (fun w S => S.tail) ?_
  refine q_conv (fun w S => S.tail) ?_
  exact f_ret (r_one rfl rfl) (⟨by first | exact vtrue' (by unfold single; grind) | exact vfalse' (by unfold single; grind) | exact bdec' (by unfold single; grind), rfl⟩) (fun w S => S)
 · -- h1F
  have h1b := h1
  try simp only [decide_eq_false_iff_not, Int.not_lt, Int.not_le] at h1
  refine o_no rfl rfl rfl rfl ?_
  refine o_no rfl rfl rfl rfl ?_
  refine o_no rfl rfl rfl rfl ?_
  refine o_no rfl rfl rfl rfl ?_
  refine o_pick_false rfl rfl rfl ?_
  refine o_assign rfl rfl ?_
  refine l_nil ?_
  refine q_then ?_
  refine c_ret ?_
  refine q_conv (fun w S => S.tail) ?_
  exact f_ret (r_one rfl rfl) (⟨by first | exact vtrue' (by unfold single; grind) | exact vfalse' (by unfold single; grind) | exact bdec' (by unfold single; grind), rfl⟩) (fun w S => S)
end
section
set_option linter.unusedVariables false
set_option linter.unusedSimpArgs false
open Go.RowKit Classical
structure FS where
  region : Int
  last : Int
  seen : List (Tag × Int)
def cnt (D : List (Tag × Int)) (t : Tag) : Int := (mget D t).getD 0
noncomputable def FS.first (s : FS) (t : Tag) : Bool × FS := (decide (IntKind.i64.wrap (cnt s.seen t + 1) = 1), { s with seen := mset s.seen t (IntKind.i64.wrap (cnt s.seen t + 1)) })
theorem first_1 (s : FS) (t : Tag) : (s.first t).1 = decide (IntKind.i64.wrap (cnt s.seen t + 1) = 1) := rfl
theorem first_2 (s : FS) (t : Tag) : (s.first t).2 = { s with seen := mset s.seen t (IntKind.i64.wrap (cnt s.seen t + 1)) } := rfl
/-- What is seen of a filter. -/
structure Vw (s : FS) (g l : Int) (n : Tag → Nat) : Prop where
  region : s.region = g
  last : s.last = l
  cnt : ∀ t, cnt s.seen t = (n t : Int)
theorem Vw.new (g : Int) : Vw ⟨g, -1, []⟩ g (-1) (fun _ => 0) := ⟨rfl, rfl, fun t => rfl⟩
theorem cnt_set {D : List (Tag × Int)} {t u : Tag} {b : Int} : cnt (mset D t b) u = if t = u then b else cnt D u := by
  unfold cnt; rw [mget_set]; split <;> rfl
theorem Vw.first {s : FS} {g l : Int} {n : Tag → Nat} (h : Vw s g l n) (t : Tag) (hb : n t ≤ 1000000) : (s.first t).1 = decide (n t = 0) ∧ Vw (s.first t).2 g l (fun u => if t = u then n u + 1 else n u) := by
  have hw : IntKind.i64.wrap (Go.Proofs.Ytjoigmbapnjhhaa.cnt s.seen t + 1) = (n t : Int) + 1 := by rw [h.cnt]; exact wrap_i64 (by omega) (by omega)
  refine ⟨?_, ?_⟩
  · rw [first_1, hw, decide_eq_decide]; omega
  · rw [first_2, hw]
    refine ⟨h.region, h.last, fun u => ?_⟩
    show Go.Proofs.Ytjoigmbapnjhhaa.cnt (mset s.seen t _) u = _
    rw [cnt_set]
    by_cases e : t = u
    · subst e; rw [if_pos rfl, if_pos rfl]; omega
    · rw [if_neg e, if_neg e, h.cnt]
end
section
set_option linter.unusedVariables false
set_option linter.unusedSimpArgs false
set_option maxRecDepth 10000
open Go.RowKit Classical
def FltR (k : Nat) (s : FS) : Res := obj (fun _ : Nat => True) fun x => [blk k (.cells #[.int .i64 s.region, .int .i64 s.last, .map (some x)] 64 (0, 0)), mapR kvTag vvInt x s.seen]
theorem region_ {W : World} {F : List Res} {g : Int} : CS Try.prog 10 #[.int .i64 g] W (F) (fun r L' => ∃ b : Nat, r = .pointer (some ⟨b, 0, none⟩) ∧ L' = FltR b ⟨g, -1, []⟩ :: F) := by
 refine f_door (l0 := [(0, .int .i64 g)]) Try.func10 Try.ntmps10 rfl rfl rfl ?_
 refine c_seq ?_
 refine c_region ?_
 refine o_assign rfl rfl ?_
 refine l_nil ?_
 refine q_then ?_
 refine c_seq ?_
 refine c_region ?_
 refine o_move rfl rfl ?_
 refine o_makeMap kvTag vvInt rfl fun m4 => ?_
 refine o_build rfl sp64 ti64 rfl ((fill_cons (cells' := [.int .i64 g, .int .i64 0, .map none]) rfl rfl rfl rfl (fill_cons (cells' := [.int .i64 g, .int .i64 (-1), .map none]) rfl rfl rfl rfl (fill_cons (cells' := [.int .i64 g, .int .i64 (-1), .map (some m4)]) rfl rfl rfl rfl fill_nil)))) ?_
 refine o_box rfl rfl fun b6 => ?_
 refine o_assign rfl rfl ?_
 refine l_nil ?_
 refine q_then ?_
 refine c_ret ?_
 exact f_ret (r_one rfl rfl) (⟨b6, rfl, rfl⟩) (fun w S => Sat.obj_mk (A := fun x => [blk b6 (.cells #[.int .i64 ((⟨g, -1, []⟩ : FS).region), .int .i64 ((⟨g, -1, []⟩ : FS).last), .map (some x)] 64 (0, 0)), mapR kvTag vvInt x ((⟨g, -1, []⟩ : FS).seen)]) m4 trivial S)
theorem flast_ {W : World} {F : List Res} {k : Nat} {s : FS}  : CS Try.prog 12 #[.pointer (some ⟨k, 0, none⟩)] W (FltR k s :: F) (fun r L' => r = .int .i64 s.last ∧ L' = FltR k s :: F) := by
 refine f_door (l0 := [(0, .pointer (some ⟨k, 0, none⟩))]) Try.func12 Try.ntmps12 rfl rfl rfl ?_
 refine c_seq ?_
 refine c_region ?_
 refine o_assign rfl rfl ?_
 refine l_nil ?_
 refine q_then ?_
 refine c_seq ?_
 refine c_region ?_
 refine o_move rfl rfl ?_
 refine o_nil rfl rfl ?_
 refine l_obj ?_
 rintro m_1 ok_1
 refine l_conv (L' := blk k (.cells #[.int .i64 s.region, .int .i64 s.last, .map (some m_1)] 64 (0, 0)) :: mapR kvTag vvInt m_1 s.seen :: _) (fun w S => S) ?_
 refine o_fieldAddr (q := ⟨k, 1, none⟩) rfl rfl Try.underlying64 rfl ti3 rfl ?_
 refine o_load1 rfl rfl Try.underlying3 rfl (rd_mem 0 rfl rfl) ?_
 refine o_assign rfl rfl ?_
 refine l_nil ?_
 refine q_then ?_
 refine c_ret ?_
 refine q_conv (L' := FltR k s :: _) (fun w S => Sat.obj_mk m_1 ok_1 S) ?_
 exact f_ret (r_one rfl rfl) (⟨rfl, rfl⟩) (fun w S => S)
theorem ffirst_ {W : World} {F : List Res} {k : Nat} {s : FS} {tg : Tag} : CS Try.prog 28 #[.pointer (some ⟨k, 0, none⟩), .agg #[.int .i64 tg.f_Id_Node, .int .u64 tg.f_Id_Epoch, .int .u64 tg.f_Id_Seq, .int .i64 tg.f_Try]] W (FltR k s :: F) (fun r L' => r = .bool (s.first tg).1 ∧ L' = FltR k (s.first tg).2 :: F) := by
 refine f_door (l0 := [(0, .pointer (some ⟨k, 0, none⟩)), (1, .agg #[.int .i64 tg.f_Id_Node, .int .u64 tg.f_Id_Epoch, .int .u64 tg.f_Id_Seq, .int .i64 tg.f_Try])]) Try.func28 Try.ntmps28 rfl rfl rfl ?_
 refine c_seq ?_
 refine c_region ?_
 refine o_box rfl rfl fun b3 => ?_
 refine o_assign rfl rfl ?_
 refine l_nil ?_
 refine q_then ?_
 refine c_seq ?_
 refine c_conv (fun w S => S.perm p1) ?_
 refine c_obj ?_
 rintro m_1 ok_1
 refine c_conv (L' := blk k (.cells #[.int .i64 s.region, .int .i64 s.last, .map (some m_1)] 64 (0, 0)) :: mapR kvTag vvInt m_1 s.seen :: _) (fun w S => S) ?_
 refine c_mid (α := Nat) (fun z => [(0, .pointer (some ⟨k, 0, none⟩)), (1, .agg #[.int .i64 tg.f_Id_Node, .int .u64 tg.f_Id_Epoch, .int .u64 tg.f_Id_Seq, .int .i64 tg.f_Try]), (3, .pointer (some ⟨b3, 0, none⟩)), (4, .bool false), (5, .pointer (some ⟨k, 0, none⟩)), (6, .pointer (some ⟨k, 0, none⟩)), (7, .pointer (some ⟨k, 2, none⟩)), (8, .map (some m_1)), (9, .agg #[.int .i64 tg.f_Id_Node, .int .u64 tg.f_Id_Epoch, .int .u64 tg.f_Id_Seq, .int .i64 tg.f_Try]), (10, .int .i64 ((mget s.seen tg).getD (0 : Int))), (11, .int .i64 (IntKind.i64.wrap ((mget s.seen tg).getD (0 : Int) + 1))), (12, .tuple #[.int .i64 ((mget s.seen tg).getD (0 : Int)), .int .i64 (z : Int)]), (13, .int .i64 (z : Int))]) (fun z => mapR kvTag vvInt m_1 (mset s.seen tg (IntKind.i64.wrap ((mget s.seen tg).getD (0 : Int) + 1))) :: blk k (.cells #[.int .i64 s.region, .int .i64 s.last, .map (some m_1)] 64 (0, 0)) :: blk b3 (.cells #[.int .i64 tg.f_Id_Node, .int .u64 tg.f_Id_Epoch, .int .u64 tg.f_Id_Seq, .int .i64 tg.f_Try] 32 (0, 0)) :: F) (fun z => True) ?_ ?_
 · -- cut
  refine c_conv (fun w S => S.perm p1) ?_
  refine c_conv (fun w S => S.perm p2) ?_
  refine c_conv (fun w S => S.perm p2) ?_
  refine c_held [blk k (.cells #[.int .i64 s.region, .int .i64 s.last, .map (some m_1)] 64 (0, 0)), blk b3 (.cells #[.int .i64 tg.f_Id_Node, .int .u64 tg.f_Id_Epoch, .int .u64 tg.f_Id_Seq, .int .i64 tg.f_Try] 32 (0, 0))] (by kernel_rfl) rfl ?_
  refine h_take 0 rfl rfl (by kernel_rfl) (by kernel_rfl) (by kernel_rfl) (fun L0 => v_move rfl rfl) ?_
  refine h_take 1 rfl rfl (by kernel_rfl) (by kernel_rfl) (by kernel_rfl) (fun L0 => v_nil rfl rfl) ?_
  refine h_take 2 rfl rfl (by kernel_rfl) (by kernel_rfl) (by kernel_rfl) (fun L0 => v_fieldAddr (q := ⟨k, 2, none⟩) rfl rfl Try.underlying64 rfl ti62 rfl) ?_
  refine h_take 3 rfl rfl (by kernel_rfl) (by kernel_rfl) (by kernel_rfl) (fun L0 => v_load1 rfl rfl Try.underlying62 rfl (rd_mem 0 rfl rfl)) ?_
  refine h_take 4 rfl rfl (by kernel_rfl) (by kernel_rfl) (by kernel_rfl) (fun L0 => v_loadn (vs := [_, _, _, _]) rfl rfl Try.underlying32 rfl ti32 (rdn_lit 1 rfl rfl)) ?_
  refine h_many (is := [5, 7]) (by kernel_rfl) (by decide) (forall_cons ⟨_, rfl, ?_⟩ (forall_cons ⟨_, rfl, ?_⟩ forall_nil))
  · -- 5 comes first
   refine o_lookupD (kv := kvTag) (vv := vvInt) (b0 := (0 : Int)) (q := tg) 2 rfl koTag rfl rfl rfl Try.underlying62 ti3 ?_
   refine l_nil ?_
   refine h_next ?_
   refine h_take 6 rfl rfl (by kernel_rfl) (by kernel_rfl) (by kernel_rfl) (fun L0 => v_bin rfl rfl rfl (b_add rfl)) ?_
   refine h_one 7 rfl (by kernel_rfl) ?_
   refine l_f2 ?_
   refine o_mapEntry (q := tg) (b0 := (0 : Int)) koTag rfl rfl rfl Try.underlying62 ti3 fun k12 => ?_
   refine l_nil ?_
   refine q_conv (fun w S => S.perm p2) ?_
   refine q_conv (fun w S => S.perm p2) ?_
   refine h_next ?_
   refine h_take 8 rfl rfl (by kernel_rfl) (by kernel_rfl) (by kernel_rfl) (fun L0 => v_extract rfl rfl rfl) ?_
   refine h_one 9 rfl (by kernel_rfl) ?_
   refine l_f2 ?_
   refine o_entryStore (b := (IntKind.i64.wrap ((mget s.seen tg).getD (0 : Int) + 1))) rfl rfl rfl ?_
   refine l_nil ?_
   refine q_conv (fun w S => S.perm p2) ?_
   refine q_conv (fun w S => S.perm p2) ?_
   refine h_next ?_
   refine h_done (by kernel_rfl) ?_
   refine q_conv (fun w S => S.perm p1) ?_
   refine q_conv (fun w S => S.perm p1) ?_
   refine q_conv (fun w S => S.perm p2) ?_
   exact q_mid (k12) (by trivial) ⟨(by first | rfl | exact vint (by omega)), (by first | rfl | exact vint (by omega)), (by first | rfl | exact vint (by omega)), (by first | rfl | exact vint (by omega)), (by first | rfl | exact vint (by omega)), (by first | rfl | exact vint (by omega)), (by first | rfl | exact vint (by omega)), (by first | rfl | exact vint (by omega)), (by first | rfl | exact vint (by omega)), (by first | rfl | exact vint (by omega)), (by first | rfl | exact vint (by omega)), (by first | rfl | exact vint (by omega)), (by first | rfl | exact vint (by omega)), trivial⟩ (fun w S => S)
  · -- 7 comes first
   refine l_f2 ?_
   refine o_mapEntry (q := tg) (b0 := (0 : Int)) koTag rfl rfl rfl Try.underlying62 ti3 fun k12 => ?_
   refine l_nil ?_
   refine q_conv (fun w S => S.perm p2) ?_
   refine q_conv (fun w S => S.perm p2) ?_
   refine h_next ?_
   refine h_take 8 rfl rfl (by kernel_rfl) (by kernel_rfl) (by kernel_rfl) (fun L0 => v_extract rfl rfl rfl) ?_
   refine h_one 5 rfl (by kernel_rfl) ?_
   refine o_lookupE (kv := kvTag) (vv := vvInt) (b0 := (0 : Int)) 2 rfl koTag rfl rfl rfl Try.underlying62 ti3 ?_
   refine l_eq (t := 10) (v' := .int .i64 ((mget s.seen tg).getD (0 : Int))) rfl (by rw [mget_set, if_pos rfl]; rfl) ?_
   refine l_nil ?_
   refine h_next ?_
   refine h_take 6 rfl rfl (by kernel_rfl) (by kernel_rfl) (by kernel_rfl) (fun L0 => v_bin rfl rfl rfl (b_add rfl)) ?_
   refine h_one 9 rfl (by kernel_rfl) ?_
   refine l_f2 ?_
   refine o_entryStore (b := (IntKind.i64.wrap ((mget s.seen tg).getD (0 : Int) + 1))) rfl rfl rfl ?_
   refine l_nil ?_
   refine q_conv (fun w S => S.perm p2) ?_
   refine q_conv (fun w S => S.perm p2) ?_
   refine h_next ?_
   refine h_done (by kernel_rfl) ?_
   refine q_conv (fun w S => S.perm p1) ?_
   refine q_conv (fun w S => S.perm p1) ?_
   refine q_conv (fun w S => S.perm p2) ?_
   exact q_mid (k12) (by trivial) ⟨(by first | rfl | exact vint (by omega)), (by first | rfl | exact vint (by omega)), (by first | rfl | exact vint (by omega)), (by first | rfl | exact vint (by omega)), (by first | rfl | exact vint (by omega)), (by first | rfl | exact vint (by omega)), (by first | rfl | exact vint (by omega)), (by first | rfl | exact vint (by omega)), (by first | rfl | exact vint (by omega)), (by first | rfl | exact vint (by omega)), (by first | rfl | exact vint (by omega)), (by first | rfl | exact vint (by omega)), (by first | rfl | exact vint (by omega)), trivial⟩ (fun w S => S)
 · -- behind the cut
  rintro k12 _hp
  try dsimp only at *
  refine c_seq ?_
  refine c_quiet (by kernel_rfl) (by kernel_rfl) ?_
  refine Qt.o_val rfl (v_move rfl rfl) ?_
  refine Qt.o_val rfl (v_nil rfl rfl) ?_
  refine Qt.o_val rfl (v_fieldAddr (q := ⟨k, 2, none⟩) rfl rfl Try.underlying64 rfl ti62 rfl) ?_
  refine Qt.o_val rfl (v_load1 rfl rfl Try.underlying62 rfl (rd_mem 1 rfl rfl)) ?_
  refine Qt.o_val rfl (v_loadn (vs := [_, _, _, _]) rfl rfl Try.underlying32 rfl ti32 (rdn_lit 2 rfl rfl)) ?_
  refine Qt.o_val rfl (v_lookupD (kv := kvTag) (vv := vvInt) (b0 := (0 : Int)) (q := tg) 0 rfl koTag rfl rfl rfl Try.underlying62 ti3) ?_
  refine Qt.o_val rfl (v_bin rfl rfl rfl b_eql) ?_
  refine Qt.o_val rfl (v_assign rfl rfl) ?_
  refine Qt.l_nil ?_
  refine q_then ?_
  refine c_ret ?_
  refine q_conv (fun w S => S.perm p2) ?_
  refine q_conv (fun w S => S.perm p1) ?_
  refine q_conv (fun w S => S.perm p2) ?_
  refine q_conv (L' := FltR k (⟨s.region, s.last, mset s.seen tg (IntKind.i64.wrap ((mget s.seen tg).getD (0 : Int) + 1))⟩ : FS) :: _) (fun w S => Sat.obj_mk m_1 trivial S) ?_
  refine q_conv (fun w S => (S.perm p1).tail) ?_
  exact f_ret (r_one rfl rfl) (⟨by rw [first_1]; unfold cnt; rw [mget_set, if_pos rfl]; rfl, rfl⟩) (fun w S => S)
end
section
set_option linter.unusedVariables false
set_option linter.unusedSimpArgs false
open Go.RowKit Classical
noncomputable def FS.item (s : FS) (x : Item) : Bool × FS :=
  if ¬ s.region ∈ homes x.ord then (false, s)
  else if x.f_Kind = 1 ∧ single x.ord then s.first x.ord.tag
  else if x.f_Kind = 2 ∧ ¬ single x.ord ∧ s.last < x.f_Index then (true, { s with last := x.f_Index })
  else (false, s)
def RunOk (g : Int) (x : Item) : Prop := x.f_Kind = 1 ∧ g ∈ homes x.ord ∧ single x.ord
def PieceOk (g : Int) (x : Item) : Prop := x.f_Kind = 2 ∧ g ∈ homes x.ord ∧ ¬ single x.ord
noncomputable def lastOn (g l : Int) (x : Item) : Int := if PieceOk g x ∧ l < x.f_Index then x.f_Index else l
theorem item_vw {s : FS} {g l : Int} {n : Tag → Nat} (h : Vw s g l n) (x : Item) (hb : ∀ t, n t ≤ 1000000) :
    (s.item x).1 = decide ((RunOk g x ∧ n x.ord.tag = 0) ∨ (PieceOk g x ∧ l < x.f_Index)) ∧ Vw (s.item x).2 g (lastOn g l x) (fun t => if RunOk g x ∧ x.ord.tag = t then n t + 1 else n t) := by
  unfold FS.item RunOk PieceOk lastOn PieceOk
  rw [h.region, h.last]
  by_cases h1 : g ∈ homes x.ord
  · rw [if_neg (fun h9 => h9 h1)]
    by_cases h2 : x.f_Kind = 1 ∧ single x.ord
    · rw [if_pos h2]
      obtain ⟨e1, e2⟩ := h.first x.ord.tag (hb _)
      have hk : ¬ x.f_Kind = 2 := by omega
      refine ⟨by rw [e1, decide_eq_decide]; simp [h1, h2, hk], ?_⟩
      refine ⟨e2.region, e2.last.trans (if_neg (fun h9 => hk h9.1.1)).symm, fun t => ?_⟩
      rw [e2.cnt]
      by_cases e : x.ord.tag = t
      · rw [if_pos e, if_pos ⟨⟨h2.1, h1, h2.2⟩, e⟩]
      · rw [if_neg e, if_neg (fun h9 => e h9.2)]
    · rw [if_neg h2]
      have hr : ¬ (x.f_Kind = 1 ∧ g ∈ homes x.ord ∧ single x.ord) := fun h9 => h2 ⟨h9.1, h9.2.2⟩
      by_cases h3 : x.f_Kind = 2 ∧ ¬ single x.ord ∧ l < x.f_Index
      · rw [if_pos h3]
        refine ⟨by simp [h1, h3], ?_⟩
        rw [if_pos ⟨⟨h3.1, h1, h3.2.1⟩, h3.2.2⟩]
        exact ⟨rfl, rfl, fun t => by rw [if_neg (fun h9 => hr h9.1)]; exact h.cnt t⟩
      · rw [if_neg h3]
        have hp : ¬ ((x.f_Kind = 2 ∧ g ∈ homes x.ord ∧ ¬ single x.ord) ∧ l < x.f_Index) := fun h9 => h3 ⟨h9.1.1, h9.1.2.2, h9.2⟩
        refine ⟨by symm; rw [decide_eq_false_iff_not]; rintro (h9 | h9); exact hr h9.1; exact hp h9, ?_⟩
        rw [if_neg hp]
        exact ⟨h.region, h.last, fun t => by rw [if_neg (fun h9 => hr h9.1)]; exact h.cnt t⟩
  · rw [if_pos h1]
    refine ⟨by symm; rw [decide_eq_false_iff_not]; rintro (h9 | h9); exact h1 h9.1.2.1; exact h1 h9.1.2.1, ?_⟩
    rw [if_neg (fun h9 => h1 h9.1.2.1)]
    exact ⟨h.region, h.last, fun t => by rw [if_neg (fun h9 => h1 h9.1.2.1)]; exact h.cnt t⟩
end
end Go.Proofs.Ytjoigmbapnjhhaa
