/- A small separation logic over the heap's blocks: resources, and the worlds in which they hold beside an old world that stays as it was. -/
import Derived.WalkKit
import Derived.WalkSpells
import Derived.WalkLawsBesides
set_option linter.unusedVariables false
set_option linter.unusedSimpArgs false
namespace Go.Proofs.Ytlblipkcbmcfkaa
open Go.RowKit

abbrev PH := Nat → Option Obj
abbrev Res := PH → Prop
def PH.dj (a b : PH) : Prop := ∀ k, a k = none ∨ b k = none
def PH.un (a b : PH) : PH := fun k => (a k).or (b k)
def emp : Res := fun h => ∀ k, h k = none
def star (A B : Res) : Res := fun h => ∃ a b : PH, PH.dj a b ∧ h = PH.un a b ∧ A a ∧ B b
def stars : List Res → Res
  | [] => emp
  | A :: L => star A (stars L)
def blk (k : Nat) (o : Obj) : Res := fun h => h = fun j => if j = k then some o else none
def pur (p : Prop) : Res := fun h => p ∧ emp h
def sex {α : Type} (A : α → Res) : Res := fun h => ∃ x, A x h

theorem PH.dj_symm {a b : PH} (h : PH.dj a b) : PH.dj b a := fun k => (h k).symm
theorem PH.un_comm {a b : PH} (h : PH.dj a b) : PH.un a b = PH.un b a := by
  funext k
  rcases h k with h | h <;> simp [PH.un, h]
theorem PH.un_assoc (a b c : PH) : PH.un (PH.un a b) c = PH.un a (PH.un b c) := by
  funext k
  simp [PH.un, Option.or_assoc]
theorem PH.dj_un {a b c : PH} (h : PH.dj a (PH.un b c)) : PH.dj a b ∧ PH.dj a c := by
  refine ⟨fun k => ?_, fun k => ?_⟩ <;>
  · rcases h k with h | h
    · exact .inl h
    · simp only [PH.un, Option.or_eq_none_iff] at h
      first | exact .inr h.1 | exact .inr h.2
theorem PH.un_dj {a b c : PH} (h1 : PH.dj a b) (h2 : PH.dj a c) : PH.dj a (PH.un b c) := fun k => by
  rcases h1 k with h | h
  · exact .inl h
  · rcases h2 k with h' | h'
    · exact .inl h'
    · exact .inr (by simp [PH.un, h, h'])

theorem star_swap {A B : Res} {h : PH} (hs : star A B h) : star B A h := by
  obtain ⟨a, b, hd, he, ha, hb⟩ := hs
  exact ⟨b, a, PH.dj_symm hd, he.trans (PH.un_comm hd), hb, ha⟩
theorem star_assoc {A B C : Res} {h : PH} : star (star A B) C h ↔ star A (star B C) h := by
  constructor
  · rintro ⟨ab, c, hd, rfl, ⟨a, b, hd2, rfl, ha, hb⟩, hc⟩
    have h3 := PH.dj_un (PH.dj_symm hd)
    exact ⟨a, PH.un b c, PH.un_dj hd2 (PH.dj_symm h3.1), PH.un_assoc _ _ _, ha, b, c, PH.dj_symm h3.2, rfl, hb, hc⟩
  · rintro ⟨a, bc, hd, rfl, ha, b, c, hd2, rfl, hb, hc⟩
    have h3 := PH.dj_un hd
    exact ⟨PH.un a b, c, PH.dj_symm (PH.un_dj (PH.dj_symm h3.2) (PH.dj_symm hd2)), (PH.un_assoc _ _ _).symm, ⟨a, b, h3.1, rfl, ha, hb⟩, hc⟩
theorem star_mono {A B A' B' : Res} (h1 : ∀ h, A h → A' h) (h2 : ∀ h, B h → B' h) {h : PH} (hs : star A B h) : star A' B' h := by
  obtain ⟨a, b, hd, he, ha, hb⟩ := hs
  exact ⟨a, b, hd, he, h1 _ ha, h2 _ hb⟩
theorem emp_eq {h : PH} (he : emp h) : h = fun _ => none := funext he
theorem un_emp {a e : PH} (he : emp e) : PH.un a e = a := by funext k; simp [PH.un, he k]
theorem emp_un {a e : PH} (he : emp e) : PH.un e a = a := by funext k; simp [PH.un, he k]

theorem stars_swap {A B : Res} {L : List Res} {h : PH} (hs : stars (A :: B :: L) h) : stars (B :: A :: L) h :=
  star_assoc.1 (star_mono (fun _ => star_swap) (fun _ x => x) (star_assoc.2 hs))
theorem stars_perm {L L' : List Res} (hp : L.Perm L') : ∀ {h : PH}, stars L h → stars L' h := by
  induction hp with
  | nil => exact fun h => h
  | cons x _ ih => exact fun h => star_mono (fun _ x => x) (fun _ => ih) h
  | swap x y l => exact fun h => stars_swap h
  | trans _ _ ih1 ih2 => exact fun h => ih2 (ih1 h)
theorem stars_append {L L' : List Res} {h : PH} : stars (L ++ L') h ↔ star (stars L) (stars L') h := by
  induction L generalizing h with
  | nil =>
    constructor
    · intro hs
      exact ⟨fun _ => none, h, fun _ => .inl rfl, by funext k; simp [PH.un], fun _ => rfl, hs⟩
    · rintro ⟨a, b, _, rfl, ha, hb⟩
      rw [emp_un ha]
      exact hb
  | cons A L ih =>
    constructor
    · intro hs
      exact star_assoc.2 (star_mono (fun _ x => x) (fun _ x => ih.1 x) hs)
    · intro hs
      exact star_mono (fun _ x => x) (fun _ x => ih.2 x) (star_assoc.1 hs)

/-- In w, beside all of the world W as it was, the resources L hold: in blocks that are no blocks of W, no two in one. -/
structure Sat (W w : World) (L : List Res) : Prop where
  below : Below W.heap.size W w
  own : ∃ h, stars L h ∧ ∀ k o, h k = some o → W.heap.size ≤ k ∧ w.heap[k]? = some o

section
variable {W w w' : World} {L L' : List Res} {A B : Res}

theorem Sat.start (W : World) : Sat W W [] := ⟨Below.refl _ _, fun _ => none, fun _ => rfl, fun _ _ h => by cases h⟩
theorem Sat.conv (h : Sat W w L) (hi : ∀ h, stars L h → stars L' h) : Sat W w L' :=
  ⟨h.below, let ⟨x, hx, hy⟩ := h.own; ⟨x, hi _ hx, hy⟩⟩
theorem Sat.perm (h : Sat W w L) (hp : L.Perm L') : Sat W w L' := h.conv fun _ => stars_perm hp
theorem Sat.imp (h : Sat W w (A :: L)) (hi : ∀ h, A h → B h) : Sat W w (B :: L) := h.conv fun _ => star_mono hi fun _ x => x
theorem Sat.tail (h : Sat W w (A :: L)) : Sat W w L := by
  obtain ⟨x, ⟨a, b, hd, rfl, ha, hb⟩, hy⟩ := h.own
  refine ⟨h.below, b, hb, fun k o hk => hy k o ?_⟩
  rcases hd k with h' | h'
  · simp [PH.un, h', hk]
  · rw [h'] at hk; cases hk
theorem Sat.unpack (h : Sat W w (star A B :: L)) : Sat W w (A :: B :: L) := h.conv fun _ => star_assoc.1
theorem Sat.pack (h : Sat W w (A :: B :: L)) : Sat W w (star A B :: L) := h.conv fun _ => star_assoc.2
theorem Sat.ex {α : Type} {A : α → Res} (h : Sat W w (sex A :: L)) : ∃ x, Sat W w (A x :: L) := by
  obtain ⟨y, ⟨a, b, hd, he, ⟨x, ha⟩, hb⟩, hy⟩ := h.own
  exact ⟨x, h.below, y, ⟨a, b, hd, he, ha, hb⟩, hy⟩
theorem Sat.unex {α : Type} {A : α → Res} (x : α) (h : Sat W w (A x :: L)) : Sat W w (sex A :: L) := h.imp fun _ ha => ⟨x, ha⟩
theorem Sat.pur {p : Prop} (h : Sat W w (pur p :: L)) : p ∧ Sat W w L := by
  obtain ⟨y, ⟨a, b, hd, he, ⟨hp, _⟩, hb⟩, hy⟩ := h.own
  exact ⟨hp, h.tail⟩
theorem Sat.unpur {p : Prop} (hp : p) (h : Sat W w L) : Sat W w (Go.Proofs.Ytlblipkcbmcfkaa.pur p :: L) :=
  h.conv fun x hx => ⟨fun _ => none, x, fun _ => .inl rfl, by funext k; simp [PH.un], ⟨hp, fun _ => rfl⟩, hx⟩
theorem Sat.emp_ (h : Sat W w L) : Sat W w (emp :: L) :=
  h.conv fun x hx => ⟨fun _ => none, x, fun _ => .inl rfl, by funext k; simp [PH.un], fun _ => rfl, hx⟩

theorem Sat.read {k : Nat} {o : Obj} (h : Sat W w (blk k o :: L)) : W.heap.size ≤ k ∧ w.heap[k]? = some o := by
  obtain ⟨y, ⟨a, b, hd, rfl, ha, hb⟩, hy⟩ := h.own
  refine hy k o ?_
  rw [ha]
  simp [PH.un]
theorem Sat.cell {k : Nat} {cs : Array Value} {T : TypeId} {m : Nat × Nat} (h : Sat W w (blk k (.cells cs T m) :: L)) (j : Nat) : w.cell? ⟨k, j, none⟩ = cs[j]? := by
  simp [World.cell?, h.read.2]
theorem Sat.frozen {k : Nat} {cs : Array Value} {T : TypeId} (h : Sat W w (blk k (.cells cs T (0, 0)) :: L)) (j : Nat) : w.frozen? ⟨k, j, none⟩ = false := by
  simp [World.frozen?, h.read.2]

theorem Sat.drew (h : Sat W w L) : Sat W w.drew L := ⟨h.below.drew, h.own⟩
/-- A new block. -/
theorem Sat.alloc (h : Sat W w L) (o : Obj) : Sat W (w.alloc o) (blk w.heap.size o :: L) := by
  obtain ⟨x, hx, hy⟩ := h.own
  refine ⟨h.below.alloc h.below.size o, PH.un (fun j => if j = w.heap.size then some o else none) x, ⟨_, _, fun k => ?_, rfl, rfl, hx⟩, fun k o' hk => ?_⟩
  · by_cases e : k = w.heap.size
    · right
      cases hxk : x k with
      | none => rfl
      | some o' =>
        have := (hy k o' hxk).2
        rw [e, Array.getElem?_eq_none (Nat.le_refl _)] at this
        cases this
    · left; simp [e]
  · by_cases e : k = w.heap.size
    · subst e
      simp only [PH.un, if_true, Option.some_or, Option.some.injEq] at hk
      subst hk
      exact ⟨h.below.size, heap_alloc_new w o⟩
    · simp only [PH.un, e, if_false, Option.none_or] at hk
      obtain ⟨h1, h2⟩ := hy k o' hk
      exact ⟨h1, (Below.heap_alloc w o k (Array.getElem?_eq_some_iff.1 h2).1).trans h2⟩
/-- One block that is owned has turned, nothing else. -/
theorem Sat.turn {k : Nat} {o o' : Obj} (h : Sat W w (blk k o :: L)) (hos : w'.os = w.os) (ht : w'.tape = w.tape) (hout : w'.output = w.output) (hs : w'.heap.size = w.heap.size)
    (hk : w'.heap[k]? = some o') (hj : ∀ j, j ≠ k → w'.heap[j]? = w.heap[j]?) : Sat W w' (blk k o' :: L) := by
  have hr := h.read
  obtain ⟨y, ⟨a, b, hd, rfl, ha, hb⟩, hy⟩ := h.own
  refine ⟨h.below.trans ⟨hos, ht, hout, by omega, fun j hjk => hj j (by omega)⟩, PH.un (fun j => if j = k then some o' else none) b, ⟨_, _, fun j => ?_, rfl, rfl, hb⟩, fun j p hp => ?_⟩
  · rcases hd j with h' | h'
    · left
      rw [ha] at h'
      by_cases e : j = k
      · simp [e] at h'
      · simp [e]
    · exact .inr h'
  · by_cases e : j = k
    · subst e
      simp only [PH.un, if_true, Option.some_or, Option.some.injEq] at hp
      subst hp
      exact ⟨hr.1, hk⟩
    · simp only [PH.un, e, if_false, Option.none_or] at hp
      rw [hj j e]
      exact hy j p (by rw [ha]; simp [PH.un, e, hp])
theorem heap_setCell_cells {w : World} {k : Nat} {cs : Array Value} {T : TypeId} {m : Nat × Nat} (h : w.heap[k]? = some (.cells cs T m)) (j : Nat) (v : Value) :
    (w.setCell ⟨k, j, none⟩ v).heap[k]? = some (.cells (cs.setIfInBounds j v) T m) := by
  simp [World.setCell, Array.getElem?_modify, h]
theorem Sat.setCell {k : Nat} {cs : Array Value} {T : TypeId} {m : Nat × Nat} (h : Sat W w (blk k (.cells cs T m) :: L)) (j : Nat) (v : Value) :
    Sat W (w.setCell ⟨k, j, none⟩ v) (blk k (.cells (cs.setIfInBounds j v) T m) :: L) :=
  h.turn rfl rfl rfl (by simp [World.setCell]) (heap_setCell_cells h.read.2 j v) (fun i hi => Below.heap_setCell _ _ _ _ hi)
/-- What a callee made from the world w on, beside what there was. -/
theorem Sat.rebase (h : Sat W w L) (h' : Sat w w' L') : Sat W w' (L' ++ L) := by
  obtain ⟨x, hx, hy⟩ := h.own
  obtain ⟨x', hx', hy'⟩ := h'.own
  refine ⟨h.below.trans (h'.below.mono h.below.size), PH.un x' x, stars_append.2 ⟨x', x, fun k => ?_, rfl, hx', hx⟩, fun k o hk => ?_⟩
  · cases h1 : x' k with
    | none => exact .inl rfl
    | some o =>
      cases h2 : x k with
      | none => exact .inr rfl
      | some o2 =>
        have a := (hy' k o h1).1
        have b := (Array.getElem?_eq_some_iff.1 (hy k o2 h2).2).1
        omega
  · cases h1 : x' k with
    | some o' =>
      simp only [PH.un, h1, Option.some_or, Option.some.injEq] at hk
      subst hk
      obtain ⟨a, b⟩ := hy' k o' h1
      exact ⟨Nat.le_trans h.below.size a, b⟩
    | none =>
      simp only [PH.un, h1, Option.none_or] at hk
      obtain ⟨a, b⟩ := hy k o hk
      exact ⟨a, (h'.below.block k (Array.getElem?_eq_some_iff.1 b).1).trans b⟩
/-- The resources that are written are turned into others in new blocks or the same ones: what a law of the kit says of one row ('grownBy'). -/
theorem Sat.grown {g : Nat} {o o' : Obj} {g' : Nat} (h : Sat W w (blk g o :: L)) (hg : w.grownBy w' (some g)) (ho : w'.heap[g']? = some o') (hw : g' = g ∨ w.heap.size ≤ g') : Sat W w' (blk g' o' :: L) := by
  have hr := h.read
  obtain ⟨y, ⟨a, b, hd, rfl, ha, hb⟩, hy⟩ := h.own
  have hgl : g < w.heap.size := (Array.getElem?_eq_some_iff.1 hr.2).1
  have hnb : ∀ k o, b k = some o → k ≠ g ∧ k < w.heap.size ∧ w.heap[k]? = some o ∧ W.heap.size ≤ k := fun k p hk => by
    have h1 := hy k p (by
      rcases hd k with h' | h'
      · simp [PH.un, h', hk]
      · rw [h'] at hk; cases hk)
    refine ⟨fun e => ?_, (Array.getElem?_eq_some_iff.1 h1.2).1, h1.2, h1.1⟩
    subst e
    rcases hd k with h' | h'
    · rw [ha] at h'; simp at h'
    · rw [h'] at hk; cases hk
  refine ⟨h.below.grown hg h.below.size (fun k hk => by cases hk; exact hr.1), PH.un (fun j => if j = g' then some o' else none) b, ⟨_, _, fun j => ?_, rfl, rfl, hb⟩, fun j p hp => ?_⟩
  · by_cases e : j = g'
    · right
      cases hbj : b j with
      | none => rfl
      | some p =>
        obtain ⟨h1, h2, _, _⟩ := hnb j p hbj
        rcases hw with rfl | hw
        · exact absurd e h1
        · omega
    · left; simp [e]
  · by_cases e : j = g'
    · subst e
      simp only [PH.un, if_true, Option.some_or, Option.some.injEq] at hp
      subst hp
      refine ⟨?_, ho⟩
      rcases hw with rfl | hw
      · exact hr.1
      · have := h.below.size; omega
    · simp only [PH.un, e, if_false, Option.none_or] at hp
      obtain ⟨h1, h2, h3, h4⟩ := hnb j p hp
      exact ⟨h4, (hg.block j h2 (by simpa using h1)).trans h3⟩
theorem Sat.grown0 {o' : Obj} {g' : Nat} (h : Sat W w L) (hg : w.grownBy w' none) (ho : w'.heap[g']? = some o') (hw : w.heap.size ≤ g') : Sat W w' (blk g' o' :: L) := by
  obtain ⟨b, hb, hy⟩ := h.own
  refine ⟨h.below.grown hg h.below.size (fun k hk => by cases hk), PH.un (fun j => if j = g' then some o' else none) b, ⟨_, _, fun j => ?_, rfl, rfl, hb⟩, fun j p hp => ?_⟩
  · by_cases e : j = g'
    · right
      cases hbj : b j with
      | none => rfl
      | some p =>
        have := (Array.getElem?_eq_some_iff.1 (hy j p hbj).2).1
        omega
    · left; simp [e]
  · by_cases e : j = g'
    · subst e
      simp only [PH.un, if_true, Option.some_or, Option.some.injEq] at hp
      subst hp
      exact ⟨Nat.le_trans h.below.size hw, ho⟩
    · simp only [PH.un, e, if_false, Option.none_or] at hp
      obtain ⟨h1, h2⟩ := hy j p hp
      exact ⟨h1, (hg.block j (Array.getElem?_eq_some_iff.1 h2).1 (by simp)).trans h2⟩
/-- Nothing that was there has turned; there may be new blocks. -/
theorem Sat.more (h : Sat W w L) (hb : Below w.heap.size w w') : Sat W w' L := by
  obtain ⟨b, hb', hy⟩ := h.own
  exact ⟨h.below.trans (hb.mono h.below.size), b, hb', fun k o hk => ⟨(hy k o hk).1, (hb.block k (Array.getElem?_eq_some_iff.1 (hy k o hk).2).1).trans (hy k o hk).2⟩⟩
end
end Go.Proofs.Ytlblipkcbmcfkaa
