/- slices.Sort and slices.Compact (the shelf's contracts) at a row that is owned; ordered lists without doubles: the plain law. -/
import Derived.Test.YtlblipkcbmcfkaaTreep
import Derived.Sort.Grow
import Derived.Sort.EncStr
import Derived.Sort.Walk0
import Derived.Lib.SlicesCompact
import Derived.Lib.RowBridge
set_option linter.unusedVariables false
set_option linter.unusedSimpArgs false
namespace Go.Proofs.Ytlblipkcbmcfkaa
open Go.RowKit Classical
/-! ### Ordered lists without doubles -/
section
variable {α : Type} {lt : α → α → Prop}
theorem mem_insI (o : Sto lt) {x y : α} : ∀ {xs : List α}, y ∈ ins id lt x xs ↔ y = x ∨ y ∈ xs
  | [] => by simp [ins]
  | z :: zs => by
    constructor
    · exact mem_ins
    · intro h
      rw [ins]
      split
      · simpa using h
      · split
        · rcases h with h | h
          · simp [(mem_insI o (xs := zs)).2 (.inl h)]
          · rcases List.mem_cons.1 h with h | h
            · simp [h]
            · simp [(mem_insI o (xs := zs)).2 (.inr h)]
        · rename_i h1 h2
          have hz : z = x := o.tri h2 h1
          subst hz
          simpa using h
theorem srtI_uniq (o : Sto lt) : ∀ {xs ys : List α}, Srt id lt xs → Srt id lt ys → (∀ x, x ∈ xs ↔ x ∈ ys) → xs = ys
  | [], [], _, _, _ => rfl
  | [], y :: ys, _, _, h => by have := (h y).2 (by simp); cases this
  | x :: xs, [], _, _, h => by have := (h x).1 (by simp); cases this
  | x :: xs, y :: ys, hx, hy, h => by
    have hx' := List.pairwise_cons.1 hx
    have hy' := List.pairwise_cons.1 hy
    have hxy : x = y := by
      rcases List.mem_cons.1 ((h x).1 (by simp)) with h1 | h1
      · exact h1
      · rcases List.mem_cons.1 ((h y).2 (by simp)) with h2 | h2
        · exact h2.symm
        · exact absurd (o.tr (hx'.1 y h2) (hy'.1 x h1)) (o.irr x)
    subst hxy
    rw [srtI_uniq o hx'.2 hy'.2 (fun z => by
      have hz := h z
      simp only [List.mem_cons] at hz
      constructor
      · intro h1
        rcases hz.1 (.inr h1) with h2 | h2
        · subst h2; exact absurd (hx'.1 z h1) (o.irr z)
        · exact h2
      · intro h1
        rcases hz.2 (.inr h1) with h2 | h2
        · subst h2; exact absurd (hy'.1 z h1) (o.irr z)
        · exact h2)]
/-- The elements of a list, rising, each once. -/
noncomputable def setOf (lt : α → α → Prop) (xs : List α) : List α := xs.foldl (fun out k => ins id lt k out) []
theorem setOf_snoc {xs : List α} {x : α} : setOf lt (xs ++ [x]) = ins id lt x (setOf lt xs) := by simp [setOf, List.foldl_append]
theorem fold_srt (o : Sto lt) : ∀ {xs out : List α}, Srt id lt out → Srt id lt (xs.foldl (fun out k => ins id lt k out) out)
  | [], _, h => h
  | x :: xs, _, h => fold_srt o (xs := xs) (srt_ins o h)
theorem fold_mem (o : Sto lt) {y : α} : ∀ {xs out : List α}, y ∈ xs.foldl (fun out k => ins id lt k out) out ↔ y ∈ xs ∨ y ∈ out
  | [], _ => by simp
  | x :: xs, out => by
    rw [List.foldl_cons, fold_mem o (xs := xs), mem_insI o, List.mem_cons]
    constructor
    · rintro (h | h | h)
      · exact .inl (.inr h)
      · exact .inl (.inl h)
      · exact .inr h
    · rintro ((h | h) | h)
      · exact .inr (.inl h)
      · exact .inl h
      · exact .inr (.inr h)
theorem setOf_srt (o : Sto lt) (xs : List α) : Srt id lt (setOf lt xs) := fold_srt o List.Pairwise.nil
theorem setOf_mem (o : Sto lt) {xs : List α} {y : α} : y ∈ setOf lt xs ↔ y ∈ xs := by
  unfold setOf; rw [fold_mem o]; simp
theorem setOf_eq (o : Sto lt) {xs ys : List α} (hs : Srt id lt ys) (h : ∀ x, x ∈ ys ↔ x ∈ xs) : ys = setOf lt xs :=
  srtI_uniq o hs (setOf_srt o xs) fun x => by rw [h, setOf_mem o]
theorem ins_in (o : Sto lt) {x : α} {xs : List α} (hs : Srt id lt xs) (h : x ∈ xs) : ins id lt x xs = xs :=
  srtI_uniq o (srt_ins o hs) hs fun y => by
    rw [mem_insI o]
    constructor
    · rintro (rfl | h1)
      · exact h
      · exact h1
    · exact .inr
theorem setOf_perm (o : Sto lt) {xs ys : List α} (h : ys.Perm xs) : setOf lt ys = setOf lt xs := setOf_eq o (setOf_srt o ys) fun x => by rw [setOf_mem o, h.mem_iff]
theorem setOf_len (o : Sto lt) : ∀ {xs out : List α}, (xs.foldl (fun out k => ins id lt k out) out).length ≤ out.length + xs.length
  | [], _ => by simp
  | x :: xs, out => by
    have h1 : ∀ {zs : List α}, (ins id lt x zs).length ≤ zs.length + 1 := by
      intro zs
      induction zs with
      | nil => simp [ins]
      | cons z zs ih =>
        rw [ins]
        split
        · simp
        · split
          · simp; exact ih
          · simp
    have h2 := setOf_len o (xs := xs) (out := ins id lt x out)
    have h3 := h1 (zs := out)
    simp only [List.foldl_cons, List.length_cons]
    omega
theorem setOf_le (o : Sto lt) (xs : List α) : (setOf lt xs).length ≤ xs.length := by
  have := setOf_len o (xs := xs) (out := [])
  simpa [setOf] using this
end
/-! ### Insertion from behind -/
section
variable {α : Type} {lt : α → α → Prop}
def InsAt (lt : α → α → Prop) (out : List α) (x : α) (k : Nat) (cur : List α) : Prop := ∃ A B, cur = A ++ x :: B ∧ out = A ++ B ∧ A.length = k ∧ ∀ b ∈ B, lt x b
theorem insAt_0 (out : List α) (x : α) : InsAt lt out x out.length (out ++ [x]) := ⟨out, [], rfl, by simp, rfl, fun b hb => by simp at hb⟩
theorem insAt_len {out cur : List α} {x : α} {k : Nat} (h : InsAt lt out x k cur) : cur.length = out.length + 1 ∧ k ≤ out.length := by
  obtain ⟨A, B, rfl, rfl, rfl, h4⟩ := h
  simp; omega
theorem insAt_x {out cur : List α} {x x1 : α} {k : Nat} (h : InsAt lt out x k cur) (hx : cur[k]? = some x1) : x1 = x := by
  obtain ⟨A, B, rfl, rfl, rfl, h4⟩ := h
  rw [List.getElem?_append_right (Nat.le_refl _), Nat.sub_self] at hx
  simpa using hx.symm
theorem insAt_on {out cur : List α} {x x1 y1 : α} {k : Nat} (h : InsAt lt out x (k + 1) cur) (hx : cur[k + 1]? = some x1) (hy : cur[k]? = some y1) (hl : lt x1 y1) : InsAt lt out x k ((cur.set (k + 1) y1).set k x1) := by
  have e := insAt_x h hx
  subst e
  obtain ⟨A, B, rfl, rfl, h3, h4⟩ := h
  rcases List.eq_nil_or_concat A with h0 | ⟨A', y, rfl⟩
  · subst h0; cases h3
  · rw [List.concat_eq_append] at *
    have hk : A'.length = k := by simpa using h3
    rw [List.getElem?_append_left (by simp; omega), List.getElem?_append_right (by omega), hk, Nat.sub_self] at hy
    have e2 : y = y1 := by simpa using hy
    subst e2
    refine ⟨A', y :: B, ?_, by simp, hk, fun b hb => ?_⟩
    · rw [List.append_assoc, List.set_append_right _ _ (by omega), hk, Nat.add_sub_cancel_left]
      simp only [List.singleton_append, List.set_cons_succ, List.set_cons_zero]
      rw [List.set_append_right _ _ (by omega), hk, Nat.sub_self]
      rfl
    · rcases List.mem_cons.1 hb with rfl | hb
      · exact hl
      · exact h4 b hb
theorem insAt_end (o : Sto lt) {out cur : List α} {x : α} {k : Nat} (h : InsAt lt out x k cur) (hs : Srt id lt out) (hn : ¬ x ∈ out) (he : k = 0 ∨ ∃ x1 y1, cur[k]? = some x1 ∧ cur[k - 1]? = some y1 ∧ ¬ lt x1 y1) : cur = ins id lt x out := by
  have hx' := fun x1 hx => insAt_x h (x1 := x1) hx
  obtain ⟨A, B, rfl, rfl, h3, h4⟩ := h
  have ha : ∀ p ∈ A, lt p x := by
    intro p hp
    rcases he with rfl | ⟨x1, y1, h5, h6, h7⟩
    · rw [List.eq_nil_of_length_eq_zero h3] at hp; cases hp
    · obtain rfl := hx' x1 h5
      rcases List.eq_nil_or_concat A with h0 | ⟨A', y, rfl⟩
      · subst h0; cases hp
      · rw [List.concat_eq_append] at *
        have hk : A'.length = k - 1 := by simp at h3; omega
        rw [List.getElem?_append_left (by simp; omega), List.getElem?_append_right (by omega), hk, Nat.sub_self] at h6
        have e2 : y = y1 := by simpa using h6
        subst e2
        have hyx : lt y x1 := Classical.byContradiction fun h8 => hn (by rw [o.tri h7 h8]; simp)
        rcases List.mem_append.1 hp with hp | hp
        · have h9 := (List.pairwise_append.1 (List.pairwise_append.1 hs).1).2.2 p hp y (by simp)
          exact o.tr h9 hyx
        · rw [List.mem_singleton.1 hp]; exact hyx
  rw [ins_pre (key := id) o ha, ins_gt (key := id) h4]
theorem nodup_setOf (o : Sto lt) {xs : List α} (h : xs.Nodup) : (setOf lt xs).Perm xs := by
  refine (List.perm_ext_iff_of_nodup ?_ h).2 fun x => setOf_mem o
  refine (setOf_srt o xs).imp fun {a b} hab he => ?_
  have hab' : lt a b := hab
  subst he
  exact o.irr _ hab'
theorem srt_nodup (o : Sto lt) {xs : List α} (h : Srt id lt xs) : xs.Nodup := h.imp fun {a b} hab he => by
  have hab' : lt a b := hab
  subst he; exact o.irr _ hab'
theorem setOf_self (o : Sto lt) {xs : List α} (h : Srt id lt xs) : setOf lt xs = xs := (setOf_eq o h fun x => Iff.rfl).symm
theorem setOf_take_in (o : Sto lt) {xs : List α} {i : Nat} {x : α} (hx : xs[i]? = some x) (h : x ∈ setOf lt (xs.take i)) : setOf lt (xs.take (i + 1)) = setOf lt (xs.take i) := by
  rw [List.take_add_one, hx]
  simp only [Option.toList_some]
  rw [setOf_snoc, ins_in o (setOf_srt o _) h]
theorem setOf_take_on (o : Sto lt) {xs : List α} {i : Nat} {x : α} (hx : xs[i]? = some x) : setOf lt (xs.take (i + 1)) = ins id lt x (setOf lt (xs.take i)) := by
  rw [List.take_add_one, hx]
  simp only [Option.toList_some]
  rw [setOf_snoc]
end
/-! ### What Compact keeps -/
section
variable {α : Type} [Inhabited α] [DecidableEq α] {lt : α → α → Prop}
theorem compact_to (o : Sto lt) {d : Array α} (hs : ∀ i j, i < j → j < d.size → ¬ lt d[j]! d[i]!) : ∀ m, m ≤ d.size → Srt id lt (Lib.compactUpTo d m) ∧ ∀ x, x ∈ Lib.compactUpTo d m ↔ ∃ j, j < m ∧ d[j]! = x := by
  intro m
  induction m with
  | zero => intro _; exact ⟨by simp [Lib.compactUpTo, Srt], fun x => by simp [Lib.compactUpTo]⟩
  | succ m ih =>
    intro hm
    obtain ⟨h1, h2⟩ := ih (by omega)
    rw [Lib.compactUpTo_succ]
    by_cases hk : Lib.keeps d m = true
    · rw [if_pos hk]
      have hk' : m = 0 ∨ d[m]! ≠ d[m - 1]! := by simpa [Lib.keeps] using hk
      refine ⟨List.pairwise_append.2 ⟨h1, List.pairwise_singleton _ _, fun x hx y hy => ?_⟩, fun x => ?_⟩
      · obtain ⟨j, hj, rfl⟩ := (h2 x).1 hx
        obtain rfl : y = d[m]! := by simpa using hy
        have hne : d[m]! ≠ d[m - 1]! := hk'.resolve_left (by omega)
        have ha : lt d[m - 1]! d[m]! := Classical.byContradiction fun h0 => hne (o.tri (hs (m - 1) m (by omega) (by omega)) h0)
        by_cases hjm : j = m - 1
        · subst hjm; exact ha
        · have hb := hs j (m - 1) (by omega) (by omega)
          by_cases hc : lt d[j]! d[m - 1]!
          · exact o.tr hc ha
          · have he := o.tri hc hb
            show lt d[j]! d[m]!
            rw [he]; exact ha
      · rw [List.mem_append, h2]
        constructor
        · rintro (⟨j, hj, rfl⟩ | h)
          · exact ⟨j, by omega, rfl⟩
          · exact ⟨m, by omega, (List.mem_singleton.1 h).symm⟩
        · rintro ⟨j, hj, rfl⟩
          by_cases hjm : j = m
          · subst hjm; exact .inr (by simp)
          · exact .inl ⟨j, by omega, rfl⟩
    · rw [if_neg hk, List.append_nil]
      have hk' : ¬ (m = 0 ∨ d[m]! ≠ d[m - 1]!) := by simpa [Lib.keeps] using hk
      have h0 : m ≠ 0 := fun h => hk' (.inl h)
      have he : d[m]! = d[m - 1]! := Classical.byContradiction fun h => hk' (.inr h)
      refine ⟨h1, fun x => ?_⟩
      rw [h2]
      constructor
      · rintro ⟨j, hj, rfl⟩; exact ⟨j, by omega, rfl⟩
      · rintro ⟨j, hj, rfl⟩
        by_cases hjm : j = m
        · subst hjm; exact ⟨j - 1, by omega, he.symm⟩
        · exact ⟨j, by omega, rfl⟩
theorem compact_setOf (o : Sto lt) {zs : List α} (hs : zs.Pairwise fun a b => ¬ lt b a) : Lib.compact zs = setOf lt zs := by
  have hg : ∀ i (hi : i < zs.length), zs.toArray[i]! = zs[i] := fun i hi => by
    rw [getElem!_pos zs.toArray i (by simpa using hi)]; simp
  obtain ⟨h1, h2⟩ := compact_to o (d := zs.toArray) (fun i j hij hj => by
    have hj' : j < zs.length := by simpa using hj
    rw [hg i (by omega), hg j hj']
    exact List.pairwise_iff_getElem.1 hs i j (by omega) hj' hij) zs.length (by simp)
  refine setOf_eq o h1 fun x => ?_
  unfold Lib.compact
  rw [h2, List.mem_iff_getElem]
  constructor
  · rintro ⟨j, hj, rfl⟩; exact ⟨j, hj, (hg j hj).symm⟩
  · rintro ⟨j, hj, rfl⟩; exact ⟨j, hj, hg j hj⟩
end
/-! ### The contracts at a row that is owned -/
section
variable {P : Program} {W w : World} {L : List Res} {κ α : Type} [Inhabited κ] {encK : κ → Value}
theorem Sat.sortRow {T c n g q : Nat} {ys : List κ} {cs : List Value} {os : Array Obj} (S : Sat W w (row T 1 (some ⟨g, 0, none⟩) n c cs :: L)) (hn : ys.length = n) (m : Nat) (hm : m ≤ n) :
    Sat W (Sort.grow (Sort.putRow encK (Sort.ahead w q) g 0 ys.toArray) os) (row T 1 (some ⟨g, 0, none⟩) m c ((ys.map encK).take m) :: L) := by
  obtain ⟨hl, ⟨h, _⟩ | ⟨g', cur, he, h2, h3, h4, h5, S'⟩⟩ := S.own_cases
  · cases h
  · cases he
    have hg := (Array.getElem?_eq_some_iff.1 S'.read.2).1
    have S1 : Sat W (Sort.putRow encK (Sort.ahead w q) g 0 ys.toArray) (blk g (.cells (Sort.putCells encK 0 ys.toArray cur) T (0, 0)) :: L) :=
      S'.turn rfl rfl rfl (by simp [Sort.putRow, Sort.mapBlock, Sort.ahead]) (by
        simp only [Sort.putRow, Sort.mapBlock, Sort.ahead, Array.getElem?_modify, if_true]
        rw [S'.read.2]; rfl) (fun j hj => by
        simp only [Sort.putRow, Sort.mapBlock, Sort.ahead, Array.getElem?_modify]
        rw [if_neg (Ne.symm hj)])
    have S2 := S1.more (w' := Sort.grow (Sort.putRow encK (Sort.ahead w q) g 0 ys.toArray) os) ⟨rfl, rfl, rfl, by simp [Sort.grow], fun k hk => Sort.heap_grow_old _ _ hk⟩
    refine S2.own_mk (by omega) h3 (by simpa [Sort.putCells] using h4) ?_
    have hsz : n ≤ cur.size := by omega
    apply List.ext_getElem?
    intro i
    rw [List.getElem?_take, List.getElem?_take, Nat.mul_one]
    by_cases hi : i < m
    · rw [if_pos hi, if_pos hi]
      have hiy : i < ys.length := by omega
      rw [List.getElem?_map, List.getElem?_eq_getElem hiy]
      simp only [Sort.putCells, Array.getElem?_toList, Array.getElem?_mapIdx]
      rw [Array.getElem?_eq_getElem (by omega : i < cur.size)]
      simp only [Option.map_some, List.size_toArray]
      rw [if_pos ⟨by omega, by omega⟩]
      rw [Nat.sub_zero, getElem!_pos ys.toArray i (by simpa using hiy)]
      simp
    · rw [if_neg hi, if_neg hi]
theorem Sat.holds {T c g : Nat} {ys : List κ} (S : Sat W w (row T 1 (some ⟨g, 0, none⟩) ys.length c (ys.map encK) :: L)) : Sort.Holds encK w g 0 ys.toArray := fun j hj => by
  have hj' : j < ys.length := by simpa using hj
  refine ⟨?_, by rw [Nat.zero_add]; exact S.own_frozen j⟩
  rw [Nat.zero_add]
  refine S.own_cell j _ ?_
  rw [List.getElem?_map, List.getElem?_eq_getElem hj', getElem!_pos ys.toArray j hj]
  simp
theorem Sat.row_lt {T sz c n g : Nat} {cs : List Value} (S : Sat W w (row T sz (some ⟨g, 0, none⟩) n c cs :: L)) : g < w.heap.size := by
  obtain ⟨hl, ⟨h, _⟩ | ⟨g', cur, he, h2, h3, h4, h5, S'⟩⟩ := S.own_cases
  · cases h
  · cases he
    exact (Array.getElem?_eq_some_iff.1 S'.read.2).1
theorem Sat.row_nil {T sz c n : Nat} {cs : List Value} (S : Sat W w (row T sz none n c cs :: L)) : n = 0 ∧ c = 0 := by
  obtain ⟨hl, ⟨_, h1, h2, _⟩ | ⟨g', cur, he, _⟩⟩ := S.own_cases
  · exact ⟨h1, h2⟩
  · cases he
theorem Sat.row_where {T sz c n : Nat} {a : Option Addr} {cs : List Value} (S : Sat W w (row T sz a n c cs :: L)) : a = none ∨ ∃ g, a = some ⟨g, 0, none⟩ := by
  obtain ⟨hl, ⟨h, _⟩ | ⟨g', cur, he, _⟩⟩ := S.own_cases
  · exact .inl h
  · exact .inr ⟨g', he⟩
theorem flat_map1 {e : Enc α} {f : α → Value} (hc : e.cells = fun x => [f x]) (xs : List α) : flat e xs = xs.map f := by
  simp only [flat, hc]
  induction xs with
  | nil => rfl
  | cons y ys ih => simp [ih]
/-- slices.Sort on an owned row. -/
theorem cs_sort {f : FuncId} {e : Enc α} {ψ : α → κ} {φ : κ → α} {le : κ → κ → Bool} {lt : α → α → Prop} (hc : e.cells = fun x => [encK (ψ x)]) (hz : e.sz = 1) (h1 : ∀ x, φ (ψ x) = x) (h2 : ∀ k, ψ (φ k) = k)
    (hle : ∀ a b, le a b = true → ¬ lt (φ b) (φ a)) (htr : ∀ a b c, le a b = true → le b c = true → le a c = true) (htot : ∀ a b, (le a b || le b a) = true)
    (h : ∀ (blk off cap : Nat) (ss : List κ) (w : World), Sort.Holds encK w blk off ss.toArray → blk < w.heap.size → ss.length < 4611686018427387904 →
      Calls P f #[.slice (some ⟨blk, off, none⟩) ss.length cap] w fun e w' => e = .returned (.tuple #[]) ∧ ∃ n os, w' = Sort.grow (Sort.putRow encK (Sort.ahead w n) blk off (ss.mergeSort le).toArray) os)
    (h0 : ∀ (p : Option Addr) (cap : Nat) (w : World), Calls P f #[.slice p 0 cap] w fun e w' => e = .returned (.tuple #[]) ∧ w' = w)
    {a : Option Addr} {c : Nat} {xs : List α} (hl : xs.length < 4611686018427387904) :
    CS P f #[.slice a xs.length c] W (row e.T e.sz a xs.length c (flat e xs) :: L) fun v L' => ∃ ys, ys.Perm xs ∧ ys.Pairwise (fun a b => ¬ lt b a) ∧ v = .tuple #[] ∧ L' = row e.T e.sz a ys.length c (flat e ys) :: L := fun w S => by
  rw [hz] at S ⊢
  rcases S.row_where with rfl | ⟨g, rfl⟩
  · obtain ⟨hn, rfl⟩ := S.row_nil
    have hx : xs = [] := List.eq_nil_of_length_eq_zero hn
    subst hx
    refine (h0 none 0 w).mono ?_
    rintro e' w' ⟨rfl, rfl⟩
    exact ⟨_, _, rfl, ⟨[], List.Perm.refl _, List.Pairwise.nil, rfl, rfl⟩, S⟩
  · rw [flat_map1 hc, show xs.map (fun x => encK (ψ x)) = (xs.map ψ).map encK by rw [List.map_map]; rfl] at S
    have hS2 : Sat W w (row e.T 1 (some ⟨g, 0, none⟩) (xs.map ψ).length c ((xs.map ψ).map encK) :: L) := by simpa using S
    have := h g 0 c (xs.map ψ) w hS2.holds S.row_lt (by simpa using hl)
    rw [List.length_map] at this
    refine this.mono ?_
    rintro e' w' ⟨rfl, n, os, rfl⟩
    have hp : ((xs.map ψ).mergeSort le).Perm (xs.map ψ) := List.mergeSort_perm _ _
    refine ⟨_, _, rfl, ⟨((xs.map ψ).mergeSort le).map φ, ?_, ?_, rfl, rfl⟩, ?_⟩
    · have := hp.map φ
      rw [List.map_map, show φ ∘ ψ = id from funext h1, List.map_id] at this
      exact this
    · rw [List.pairwise_map]
      exact (List.pairwise_mergeSort htr htot (xs.map ψ)).imp fun {x y} hxy => hle x y hxy
    · have hlen : ((xs.map ψ).mergeSort le).length = xs.length := by rw [hp.length_eq, List.length_map]
      have S3 := S.sortRow (encK := encK) (q := n) (os := os) (ys := (xs.map ψ).mergeSort le) hlen xs.length (Nat.le_refl _)
      rw [List.take_of_length_le (by simp)] at S3
      have e1 : flat e (((xs.map ψ).mergeSort le).map φ) = ((xs.map ψ).mergeSort le).map encK := by
        rw [flat_map1 hc, List.map_map]
        refine List.map_congr_left fun k _ => ?_
        simp [h2]
      rw [e1, List.length_map, hlen]
      exact S3
/-- slices.Compact on an owned row that is sorted. -/
theorem cs_compact [DecidableEq κ] {f : FuncId} {e : Enc α} {ψ : α → κ} {φ : κ → α} {z : κ} {lt : α → α → Prop} (o : Sto lt) (hc : e.cells = fun x => [encK (ψ x)]) (hz : e.sz = 1) (h1 : ∀ x, φ (ψ x) = x) (h2 : ∀ k, ψ (φ k) = k)
    (h : ∀ (blk off cap : Nat) (zs : List κ) (w : World), Sort.Holds encK w blk off zs.toArray → zs.length ≤ 9223372036854775807 → zs.length ≤ cap →
      Calls P f #[.slice (some ⟨blk, off, none⟩) zs.length cap] w fun e w' => e = .returned (.slice (some ⟨blk, off, none⟩) (Lib.compact zs).length cap) ∧ ∃ q, w' = Sort.putRow encK (Sort.ahead w q) blk off (Lib.compact zs ++ List.replicate (zs.length - (Lib.compact zs).length) z).toArray)
    (h0 : ∀ (p : Option Addr) (cap : Nat) (w : World), Calls P f #[.slice p 0 cap] w fun e w' => e = .returned (.slice p 0 cap) ∧ w' = w)
    {a : Option Addr} {c : Nat} {xs : List α} (hs : xs.Pairwise fun a b => ¬ lt b a) (hl : xs.length ≤ 9223372036854775807) :
    CS P f #[.slice a xs.length c] W (row e.T e.sz a xs.length c (flat e xs) :: L) fun v L' => v = .slice a (setOf lt xs).length c ∧ L' = row e.T e.sz a (setOf lt xs).length c (flat e (setOf lt xs)) :: L := fun w S => by
  have hcap := S.own_len.2.1
  rw [hz] at S ⊢
  rcases S.row_where with rfl | ⟨g, rfl⟩
  · obtain ⟨hn, rfl⟩ := S.row_nil
    have hx : xs = [] := List.eq_nil_of_length_eq_zero hn
    subst hx
    refine (h0 none 0 w).mono ?_
    rintro e' w' ⟨rfl, rfl⟩
    exact ⟨_, _, rfl, ⟨rfl, rfl⟩, S⟩
  · rw [flat_map1 hc, show xs.map (fun x => encK (ψ x)) = (xs.map ψ).map encK by rw [List.map_map]; rfl] at S
    have hS2 : Sat W w (row e.T 1 (some ⟨g, 0, none⟩) (xs.map ψ).length c ((xs.map ψ).map encK) :: L) := by simpa using S
    have := h g 0 c (xs.map ψ) w hS2.holds (by simpa using hl) (by simpa using hcap)
    rw [List.length_map] at this
    refine this.mono ?_
    rintro e' w' ⟨rfl, q, rfl⟩
    let ltK : κ → κ → Prop := fun a b => lt (φ a) (φ b)
    have oK : Sto ltK := ⟨fun a => o.irr _, fun h1 h2 => o.tr h1 h2, fun {a b} h3 h4 => by
      have := o.tri h3 h4
      rw [← h2 a, ← h2 b, this]⟩
    have hcK : Lib.compact (xs.map ψ) = setOf ltK (xs.map ψ) := compact_setOf oK (by
      rw [List.pairwise_map]
      refine hs.imp fun {x y} hxy => ?_
      show ¬ lt (φ (ψ y)) (φ (ψ x))
      rw [h1, h1]; exact hxy)
    have hset : (setOf ltK (xs.map ψ)).map φ = setOf lt xs := by
      refine setOf_eq o ?_ fun x => ?_
      · unfold Srt
        rw [List.pairwise_map]
        exact setOf_srt oK (xs.map ψ)
      · rw [List.mem_map]
        constructor
        · rintro ⟨k, hk, rfl⟩
          rw [setOf_mem oK, List.mem_map] at hk
          obtain ⟨x, hx, rfl⟩ := hk
          rw [h1]; exact hx
        · intro hx
          exact ⟨ψ x, by rw [setOf_mem oK]; exact List.mem_map_of_mem hx, h1 x⟩
    have hlen : (Lib.compact (xs.map ψ)).length = (setOf lt xs).length := by rw [← hset, hcK, List.length_map]
    have hle : (Lib.compact (xs.map ψ)).length ≤ xs.length := by
      have := Lib.compact_length_le (xs.map ψ)
      simpa using this
    refine ⟨_, _, rfl, ⟨by rw [hlen], rfl⟩, ?_⟩
    have S3 := S.sortRow (encK := encK) (q := q) (os := #[]) (ys := Lib.compact (xs.map ψ) ++ List.replicate (xs.length - (Lib.compact (xs.map ψ)).length) z) (by simp; omega) (setOf lt xs).length (by omega)
    rw [List.map_append, List.take_append_of_le_length (by simp; omega), List.take_of_length_le (by simp; omega)] at S3
    have e1 : flat e (setOf lt xs) = (Lib.compact (xs.map ψ)).map encK := by
      rw [flat_map1 hc, ← hset, hcK, List.map_map]
      refine List.map_congr_left fun k _ => ?_
      simp [h2]
    rw [e1]
    simpa using S3
end
/-! ### Texts, numbers -/
theorem slt_le {a b : List UInt8} (h : decide (a ≤ b) = true) : ¬ strlt ⟨b.toArray⟩ ⟨a.toArray⟩ := by
  unfold strlt slt
  rw [Go.Proofs.bytesLess_eq]
  simp only [decide_eq_true_eq] at h ⊢
  exact fun h1 => absurd h1 (by simpa using List.not_lt.2 h)
theorem le_tr_str (a b c : List UInt8) : decide (a ≤ b) = true → decide (b ≤ c) = true → decide (a ≤ c) = true := by
  simp only [decide_eq_true_eq]; exact List.le_trans
theorem le_tot_str (a b : List UInt8) : (decide (a ≤ b) || decide (b ≤ a)) = true := by
  simp only [Bool.or_eq_true, decide_eq_true_eq]; exact List.le_total a b
theorem le_int {a b : Int} (h : decide (a ≤ b) = true) : ¬ ilt b a := by
  simp only [decide_eq_true_eq] at h
  show ¬ b < a
  omega
theorem le_tr_int (a b c : Int) : decide (a ≤ b) = true → decide (b ≤ c) = true → decide (a ≤ c) = true := by
  simp only [decide_eq_true_eq]; omega
theorem le_tot_int (a b : Int) : (decide (a ≤ b) || decide (b ≤ a)) = true := by
  simp only [Bool.or_eq_true, decide_eq_true_eq]; omega
end Go.Proofs.Ytlblipkcbmcfkaa
