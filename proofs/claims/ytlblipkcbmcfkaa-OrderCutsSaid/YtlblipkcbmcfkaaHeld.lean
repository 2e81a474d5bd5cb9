/- Regions whose order is open and that hold calls or make memory: operations that only read what is held throughout are taken first. -/
import Derived.Test.YtlblipkcbmcfkaaDraw
set_option linter.unusedVariables false
set_option linter.unusedSimpArgs false
namespace Go.Proofs.Ytlblipkcbmcfkaa
open Go.RowKit
section
variable {P : Program} {N : FN} {l : Fr} {W : World} {L L' : List Res} {Q : Exit → Act → World → Prop} {ops : Array Oper}
/-- What is held throughout the region: these resources, ahead of whatever others. -/
def HS (W : World) (Bs : List Res) (w : World) : Prop := ∃ L0, Sat W w (Bs ++ L0)
def WH (P : Program) (ops : Array Oper) (Q : Exit → Act → World → Prop) (Bs : List Res) (fuel : Nat) (listed : Array Bool) (N : FN) (l : Fr) (W : World) (L : List Res) : Prop :=
  ∀ a w, Know a N l → Sat W w (Bs ++ L) → wpAnyI N.ro P .any ops (NoPan Q) (HS W Bs) fuel listed a w
def HQ (ro : Option Nat) (P : Program) (ops : Array Oper) (Q : Exit → Act → World → Prop) (Bs : List Res) (fuel : Nat) (listed : Array Bool) (W : World) : Exit → Act → World → Prop
  | .normal, a, w => HS W Bs w ∧ wpAnyI ro P .any ops (NoPan Q) (HS W Bs) fuel listed a w
  | e, a, w => NoPan Q e a w
theorem c_held {id : Nat} {ops : List Oper} (Bs : List Res) {L1 : List Res} (hm : P.follows .mixedOrders = true) (hL : Bs ++ L1 = L)
    (h : WH P ops.toArray Q Bs ops.length (Array.replicate ops.length false) N l W L1) : WC P (.region id ops.toArray true) Q N l W L := fun a w K S => by
  refine wpIn_mono (wpIn_region_any hm (wpAny_of_I (S := HS W Bs) _ _ _ _ ?_)) NoPan.imp
  have := h a { w with drawn := w.drawn + 1 } K (by rw [hL]; exact S.drew)
  simpa using this
theorem c_heldF {id : Nat} {ops : List Oper} (L1 Bs : List Res) (hm : P.follows .mixedOrders = true) (h : WH P ops.toArray Q Bs ops.length (Array.replicate ops.length false) N l W L1) : WC P (.region id ops.toArray true) Q N l W (L1 ++ Bs) := fun a w K S =>
  c_held Bs hm rfl h a w K (S.perm List.perm_append_comm)
theorem Sat.left {w : World} : ∀ {L0 L : List Res}, Sat W w (L ++ L0) → Sat W w L := fun {L0 L} S => by
  have h : ∀ (A B : List Res), Sat W w (A ++ B) → Sat W w B := fun A => by
    induction A with
    | nil => exact fun B h => h
    | cons a A ih => exact fun B h => ih B h.tail
  exact h L0 L (S.perm List.perm_append_comm)
theorem rds_app {α : Type} {e : Enc α} {a : Option Addr} {xs : List α} {L0 : List Res} (h : RdS W L e a xs) : RdS W (L ++ L0) e a xs := fun w S => h w S.left
theorem h_done {Bs : List Res} {fuel : Nat} {listed : Array Bool} (hr : Region.ready .any ops listed = []) (h : WQ Q .normal N l W (Bs ++ L)) : WH P ops Q Bs fuel listed N l W L := fun a w K S =>
  wpAnyI_done (Q := NoPan Q) hr (show NoPan Q .normal a w from h a w K S) fuel
theorem h_take {Bs : List Res} {fuel : Nat} {listed : Array Bool} (i : Nat) {d : Nat} {op : Op} {ty : TypeId} {pos : String} {af : Array Edge} {v : Value} (hi : ops[i]? = some ⟨some d, op, ty, pos, af, none⟩) (hd : Nat.ble (d + 1) N = true)
    (hs : (Region.noSelect ops && ops.toList.all noDef) = true) (hf : Region.free .any ops listed i = true) (hr : (Region.ready .any ops listed).contains i = true) (hv : ∀ L0, OV P N l W (Bs ++ L0) ⟨some d, op, ty, pos, af, none⟩ v)
    (h : WH P ops Q Bs fuel (listed.setIfInBounds i true) N ((d, v) :: l) W L) : WH P ops Q Bs (fuel + 1) listed N l W L := fun a w K S =>
  wpAnyI_take (by simp only [Bool.and_eq_true] at hs; exact hs.2) hi (by simp only [Bool.and_eq_true] at hs; exact hs.1) hf hr (fun c a w hp => hp.elim) (.inl ⟨by simp [Region.wanted], fun w' ⟨L0, S'⟩ => hv L0 a w' K S'⟩) ⟨L, S⟩ (h _ w (K.put hd v) S)
theorem h_take_yes {Bs : List Res} {fuel : Nat} {listed : Array Bool} (i : Nat) {d j dj : Nat} {b : Bool} {op : Op} {ty : TypeId} {pos : String} {af : Array Edge} {v : Value} (hi : ops[i]? = some ⟨some d, op, ty, pos, af, some (j, b)⟩) (hd : Nat.ble (d + 1) N = true)
    (hj : (ops[j]?).bind (·.dst) = some dj) (hg : lk l dj = some (.bool b)) (hdj : Nat.ble (dj + 1) N = true)
    (hs : (Region.noSelect ops && ops.toList.all noDef) = true) (hf : Region.free .any ops listed i = true) (hr : (Region.ready .any ops listed).contains i = true) (hv : ∀ L0, OV P N l W (Bs ++ L0) ⟨some d, op, ty, pos, af, none⟩ v)
    (h : WH P ops Q Bs fuel (listed.setIfInBounds i true) N ((d, v) :: l) W L) : WH P ops Q Bs (fuel + 1) listed N l W L := fun a w K S => by
  have hd' : dj < a.tmps.size := by rw [K.size]; exact Nat.le_of_ble_eq_true hdj
  have hy : yielded ops a.tmps j = some b := by
    have := K.val dj _ hg
    simp only [yielded, hj, Option.bind_some]
    rw [Array.getD_eq_getD_getElem?, Array.getElem?_eq_getElem hd'] at this
    rw [Array.getElem?_eq_getElem hd']
    simp only [Option.getD_some] at this
    rw [this]
  exact wpAnyI_take (by simp only [Bool.and_eq_true] at hs; exact hs.2) hi (by simp only [Bool.and_eq_true] at hs; exact hs.1) hf hr (fun c a w hp => hp.elim) (.inl ⟨by simp [Region.wanted, hy], fun w' ⟨L0, S'⟩ => hv L0 a w' K S'⟩) ⟨L, S⟩ (h _ w (K.put hd v) S)
theorem h_take_no {Bs : List Res} {fuel : Nat} {listed : Array Bool} (i : Nat) {d j dj : Nat} {b : Bool} {op : Op} {ty : TypeId} {pos : String} {af : Array Edge} {v : Value} (hi : ops[i]? = some ⟨some d, op, ty, pos, af, some (j, b)⟩) (hd : Nat.ble (d + 1) N = true)
    (hj : (ops[j]?).bind (·.dst) = some dj) (hg : lk l dj = some v) (hb : (match v with | .bool c => c == b | _ => false) = false)
    (hs : (Region.noSelect ops && ops.toList.all noDef) = true) (hf : Region.free .any ops listed i = true) (hr : (Region.ready .any ops listed).contains i = true)
    (h : WH P ops Q Bs fuel (listed.setIfInBounds i true) N ((d, undef) :: l) W L) : WH P ops Q Bs (fuel + 1) listed N l W L := fun a w K S => by
  have hy : yielded ops a.tmps j ≠ some b := by
    have := K.val dj _ hg
    simp only [yielded, hj, Option.bind_some]
    rw [Array.getD_eq_getD_getElem?] at this
    cases hgt : a.tmps[dj]? with
    | none => simp
    | some u =>
      rw [hgt] at this
      simp only [Option.getD_some] at this
      subst this
      cases u <;> simp
      intro e
      subst e
      simp at hb
  exact wpAnyI_take (by simp only [Bool.and_eq_true] at hs; exact hs.2) hi (by simp only [Bool.and_eq_true] at hs; exact hs.1) hf hr (fun c a w hp => hp.elim) (.inr ⟨by simp [Region.wanted, hy], rfl⟩) ⟨L, S⟩ (h _ w (K.put hd undef) S)
/-- An operation that turns the world. -/
theorem h_core {Bs : List Res} {fuel : Nat} {listed : Array Bool} (i : Nat) {o : Oper} (hi : ops[i]? = some o)
    (h : WL P ops (HQ N.ro P ops Q Bs fuel (listed.setIfInBounds i true) W) [o] N l W (Bs ++ L)) (a : Act) (w : World) (K : Know a N l) (S : Sat W w (Bs ++ L)) :
    wpOpIn (fen N.ro) 0 P ops (NoPan Q) i (fun a' w' => HS W Bs w' ∧ wpAnyI N.ro P .any ops (NoPan Q) (HS W Bs) fuel (listed.setIfInBounds i true) a' w') a w := by
  have h1 := h a w K S
  unfold wpOpIn
  simp only [hi]
  unfold wpListIn at h1
  split at h1
  · rename_i hw
    rw [if_pos hw]
    refine ⟨h1.1, ?_⟩
    have h2 := h1.2
    generalize (o.semAt (fen N.ro).round a.eval).run P w = r at *
    cases r with
    | ok n w' =>
      cases n with
      | enter f args =>
        refine ⟨h2.1, CallsIn.mono h2.2 ?_⟩
        intro e w'' he
        cases e with
        | returned v => exact he
        | panicked c => exact he
        | outgrown => exact he
      | round l f tmps assign body =>
        refine ⟨h2.1, RoundIn.mono h2.2 ?_⟩
        intro e w'' he
        cases e with
        | returned v => exact he
        | panicked c => exact he
        | outgrown => exact he
      | row r args => exact ⟨h2.1, RowsIn.mono h2.2 fun v w'' hv => hv⟩
      | value v => exact h2
      | skip => exact h2
      | defer d => exact h2
      | _ => exact h2
    | halt x w' =>
      cases x <;> exact h2
  · rename_i hw
    rw [if_neg hw]
    exact h1
/-- .. where nothing else may come up. -/
theorem h_one {Bs : List Res} {fuel : Nat} {listed : Array Bool} (i : Nat) {o : Oper} (hi : ops[i]? = some o) (hr : Region.ready .any ops listed = [i])
    (h : WL P ops (HQ N.ro P ops Q Bs fuel (listed.setIfInBounds i true) W) [o] N l W (Bs ++ L)) : WH P ops Q Bs (fuel + 1) listed N l W L := fun a w K S => by
  refine ⟨fun h0 => (by rw [hr] at h0; cases h0), ?_⟩
  rw [hr]
  intro i' hi'
  simp only [List.mem_singleton] at hi'
  subst hi'
  exact h_core _ hi h a w K S
theorem forall_nil {p : Nat → Prop} : ∀ i ∈ ([] : List Nat), p i := fun i h => by cases h
theorem forall_cons {p : Nat → Prop} {i : Nat} {is : List Nat} (h : p i) (h' : ∀ j ∈ is, p j) : ∀ j ∈ i :: is, p j := List.forall_mem_cons.2 ⟨h, h'⟩
/-- .. where others may come up, too. -/
theorem h_many {Bs : List Res} {fuel : Nat} {listed : Array Bool} {is : List Nat} (hr : Region.ready .any ops listed = is) (hne : is ≠ [])
    (h : ∀ i ∈ is, ∃ o, ops[i]? = some o ∧ WL P ops (HQ N.ro P ops Q Bs fuel (listed.setIfInBounds i true) W) [o] N l W (Bs ++ L)) : WH P ops Q Bs (fuel + 1) listed N l W L := fun a w K S => by
  refine ⟨fun h0 => (by rw [hr] at h0; exact absurd h0 hne), ?_⟩
  rw [hr]
  intro i hi
  obtain ⟨o, ho, hw⟩ := h i hi
  exact h_core _ ho hw a w K S
theorem h_next {Bs : List Res} {fuel : Nat} {listed : Array Bool} (h : WH P ops Q Bs fuel listed N l W L) : WQ (HQ N.ro P ops Q Bs fuel listed W) .normal N l W (Bs ++ L) := fun a w K S => ⟨⟨L, S⟩, h a w K S⟩
theorem h_eq {Bs : List Res} {fuel : Nat} {listed : Array Bool} {t : Nat} {v v' : Value} (hx : lk l t = some v) (e : v = v') (h : WH P ops Q Bs fuel listed N ((t, v') :: l) W L) : WH P ops Q Bs fuel listed N l W L := fun a w K S =>
  h a w (K.sub (l' := (t, v') :: l) (fun s u hs => by
    rw [lk_cons] at hs
    split at hs
    · rename_i hts; subst hts; subst e; rw [hx]; exact hs
    · exact hs)) S
theorem h_split {Bs : List Res} {fuel : Nat} {listed : Array Bool} {t : Nat} {b : Bool} (hx : lk l t = some (.bool b)) (ht : b = true → WH P ops Q Bs fuel listed N ((t, .bool true) :: l) W L) (he : b = false → WH P ops Q Bs fuel listed N ((t, .bool false) :: l) W L) : WH P ops Q Bs fuel listed N l W L := by
  cases b with
  | true => exact h_eq hx rfl (ht rfl)
  | false => exact h_eq hx rfl (he rfl)
/-- From here on more is held. -/
theorem h_more {Bs : List Res} {fuel : Nat} {listed : Array Bool} (Bs1 : List Res) {L1 : List Res} (hL : Bs1 ++ L1 = L) (h : WH P ops Q (Bs ++ Bs1) fuel listed N l W L1) : WH P ops Q Bs fuel listed N l W L := fun a w K S => by
  subst hL
  refine wpAnyI_weak (S' := HS W (Bs ++ Bs1)) ?_ _ _ _ _ (h a w K (by rw [List.append_assoc]; exact S))
  rintro w' ⟨L0, S'⟩
  exact ⟨Bs1 ++ L0, by rw [List.append_assoc] at S'; exact S'⟩
end
end Go.Proofs.Ytlblipkcbmcfkaa
