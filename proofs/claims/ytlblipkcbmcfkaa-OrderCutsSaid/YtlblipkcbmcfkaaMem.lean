/- Memory: cells, structs in blocks of their own, slices that are read, slices that are owned. -/
import Derived.Test.YtlblipkcbmcfkaaOps
set_option linter.unusedVariables false
set_option linter.unusedSimpArgs false
namespace Go.Proofs.Ytlblipkcbmcfkaa
open Go.RowKit

/-! ### Cells that are read -/
def Rd (W : World) (L : List Res) (p : Addr) (v : Value) : Prop := ∀ w, Sat W w L → w.cell? p = some v
def RdN (W : World) (L : List Res) (p : Addr) (vs : List Value) : Prop := ∀ w, Sat W w L → ∀ j u, vs[j]? = some u → w.cell? (p.add j) = some u
theorem Addr.add_mk (k j o : Nat) : (⟨k, j, none⟩ : Addr).add o = ⟨k, j + o, none⟩ := by
  unfold Addr.add
  split
  · rename_i h; subst h; rfl
  · rfl
section
variable {W : World} {L : List Res} {k j T : Nat} {cs : Array Value} {m : Nat × Nat} {v : Value}
theorem mem_front {L : List Res} {A : Res} (h : A ∈ L) {w : World} (S : Sat W w L) : ∃ L', Sat W w (A :: L') :=
  let ⟨s, t, e⟩ := List.append_of_mem h
  ⟨s ++ t, S.perm (by rw [e]; exact List.perm_middle)⟩
theorem rd_mem (i : Nat) (h : L[i]? = some (blk k (.cells cs T m))) (hc : cs[j]? = some v) : Rd W L ⟨k, j, none⟩ v := fun w S => by
  obtain ⟨L', S'⟩ := mem_front (List.mem_of_getElem? h) S
  rw [S'.cell, hc]
theorem rdn_mem (i : Nat) (h : L[i]? = some (blk k (.cells cs T m))) {vs : List Value} (hc : ∀ o u, vs[o]? = some u → cs[j + o]? = some u) : RdN W L ⟨k, j, none⟩ vs := fun w S o u ho => by
  obtain ⟨L', S'⟩ := mem_front (List.mem_of_getElem? h) S
  rw [Addr.add_mk, S'.cell, hc o u ho]
end

/-! ### Slices that are owned, from a block's head on -/
def row (T sz : Nat) (a : Option Addr) (n c : Nat) (cs : List Value) : Res := fun h =>
  cs.length = n * sz ∧ ((a = none ∧ n = 0 ∧ c = 0 ∧ emp h) ∨ ∃ g cur, a = some ⟨g, 0, none⟩ ∧ n ≤ c ∧ c ≤ maxLen ∧ c * sz ≤ cur.size ∧ cur.toList.take (n * sz) = cs ∧ blk g (.cells cur T (0, 0)) h)
section
variable {W w w' : World} {L : List Res} {T sz n c : Nat} {a : Option Addr} {cs : List Value}
theorem Sat.own_cases (S : Sat W w (row T sz a n c cs :: L)) : cs.length = n * sz ∧ ((a = none ∧ n = 0 ∧ c = 0 ∧ Sat W w (emp :: L)) ∨ ∃ g cur, a = some ⟨g, 0, none⟩ ∧ n ≤ c ∧ c ≤ maxLen ∧ c * sz ≤ cur.size ∧ cur.toList.take (n * sz) = cs ∧ Sat W w (blk g (.cells cur T (0, 0)) :: L)) := by
  obtain ⟨y, ⟨x, b, hd, he, ⟨hl, hx⟩, hb⟩, hy⟩ := S.own
  refine ⟨hl, ?_⟩
  rcases hx with ⟨h1, h2, h3, h4⟩ | ⟨g, cur, h1, h2, h3, h4, h5, h6⟩
  · exact .inl ⟨h1, h2, h3, S.below, y, ⟨x, b, hd, he, h4, hb⟩, hy⟩
  · exact .inr ⟨g, cur, h1, h2, h3, h4, h5, S.below, y, ⟨x, b, hd, he, h6, hb⟩, hy⟩
theorem Sat.own_nil (S : Sat W w L) : Sat W w (row T sz none 0 0 [] :: L) := S.emp_.imp fun h he => ⟨by simp, .inl ⟨rfl, rfl, rfl, he⟩⟩
theorem Sat.own_mk {g : Nat} {cur : Array Value} (S : Sat W w (blk g (.cells cur T (0, 0)) :: L)) (h1 : n ≤ c) (h2 : c ≤ maxLen) (h3 : c * sz ≤ cur.size) (h4 : cur.toList.take (n * sz) = cs) :
    Sat W w (row T sz (some ⟨g, 0, none⟩) n c cs :: L) := S.imp fun h hb => ⟨by
      rw [← h4, List.length_take, Array.length_toList]
      exact Nat.min_eq_left (Nat.le_trans (Nat.mul_le_mul_right _ h1) h3), .inr ⟨g, cur, rfl, h1, h2, h3, h4, hb⟩⟩
/-- What a row of its own is made of. -/
theorem Sat.own_new {v' : Value} {n' : Nat} {cs' : List Value} (S : Sat W w L) (hr : w'.ownsRow w.heap.size T sz v' n' cs') (hg : w.grownBy w' none) : ∃ a' c', v' = .slice a' n' c' ∧ Sat W w' (row T sz a' n' c' cs' :: L) := by
  rcases hr.2 with ⟨rfl, rfl⟩ | ⟨g', cap, cur', rfl, hb, hh, h6, h7, h8, h9⟩
  · have hcs : cs' = [] := List.eq_nil_of_length_eq_zero (by simpa using hr.1)
    subst hcs
    have S1 : Sat W w' L := by
      have hbl : Below w.heap.size w w' := ⟨hg.os, hg.tape, hg.output, hg.size, fun k hk => hg.block k hk (by simp)⟩
      exact S.more hbl
    exact ⟨none, 0, rfl, S1.own_nil⟩
  · exact ⟨_, _, rfl, (S.grown0 hg hh hb).own_mk h6 h7 (Nat.le_of_eq h8.symm) h9⟩
theorem Sat.own_len (S : Sat W w (row T sz a n c cs :: L)) : cs.length = n * sz ∧ n ≤ c ∧ c ≤ maxLen := by
  obtain ⟨hl, ⟨rfl, rfl, rfl, _⟩ | ⟨g, cur, rfl, h2, h3, h4, h5, S'⟩⟩ := S.own_cases
  · exact ⟨hl, Nat.le_refl _, by simp [maxLen]⟩
  · exact ⟨hl, h2, h3⟩
theorem Sat.own_at (S : Sat W w (row T sz a n c cs :: L)) (h0 : cs ≠ []) : ∃ g, a = some ⟨g, 0, none⟩ := by
  obtain ⟨hl, ⟨rfl, rfl, rfl, _⟩ | ⟨g, cur, rfl, h2, h3, h4, h5, S'⟩⟩ := S.own_cases
  · exact absurd (List.eq_nil_of_length_eq_zero (by simpa using hl)) h0
  · exact ⟨g, rfl⟩
theorem Sat.own_cell {g : Nat} (S : Sat W w (row T sz (some ⟨g, 0, none⟩) n c cs :: L)) (j : Nat) (u : Value) (hj : cs[j]? = some u) : w.cell? ⟨g, j, none⟩ = some u := by
  obtain ⟨hl, ⟨h, _⟩ | ⟨g', cur, he, h2, h3, h4, h5, S'⟩⟩ := S.own_cases
  · cases h
  · cases he
    rw [S'.cell]
    rw [← h5, List.getElem?_take] at hj
    split at hj
    · simpa using hj
    · cases hj
theorem setIf_take {cur : Array Value} {j k : Nat} {v : Value} : (cur.setIfInBounds j v).toList.take k = (cur.toList.take k).set j v := by
  rw [Array.toList_setIfInBounds, List.take_set]
theorem Sat.own_set {g : Nat} (S : Sat W w (row T sz (some ⟨g, 0, none⟩) n c cs :: L)) (j : Nat) (u : Value) : Sat W (w.setCell ⟨g, j, none⟩ u) (row T sz (some ⟨g, 0, none⟩) n c (cs.set j u) :: L) := by
  obtain ⟨hl, ⟨h, _⟩ | ⟨g', cur, he, h2, h3, h4, h5, S'⟩⟩ := S.own_cases
  · cases h
  · cases he
    exact (S'.setCell j u).own_mk h2 h3 (by simpa using h4) (by rw [setIf_take, h5])
theorem Sat.own_frozen {g : Nat} (S : Sat W w (row T sz (some ⟨g, 0, none⟩) n c cs :: L)) (j : Nat) : w.frozen? ⟨g, j, none⟩ = false := by
  obtain ⟨hl, ⟨h, _⟩ | ⟨g', cur, he, h2, h3, h4, h5, S'⟩⟩ := S.own_cases
  · cases h
  · cases he
    exact S'.frozen j
/-- What is owned, as a block. -/
theorem rd_own {g : Nat} (i : Nat) (h : L[i]? = some (row T sz (some ⟨g, 0, none⟩) n c cs)) {j : Nat} {v : Value} (hc : cs[j]? = some v) : Rd W L ⟨g, j, none⟩ v := fun w S => by
  obtain ⟨L', S'⟩ := mem_front (List.mem_of_getElem? h) S
  exact S'.own_cell j v hc
theorem rdn_own {g : Nat} (i : Nat) (h : L[i]? = some (row T sz (some ⟨g, 0, none⟩) n c cs)) {j : Nat} {vs : List Value} (hc : ∀ o u, vs[o]? = some u → cs[j + o]? = some u) : RdN W L ⟨g, j, none⟩ vs := fun w S o u ho => by
  obtain ⟨L', S'⟩ := mem_front (List.mem_of_getElem? h) S
  rw [Addr.add_mk]
  exact S'.own_cell _ u (hc o u ho)
end

/-! ### Kinds of elements -/
structure Enc (α : Type) where
  T : TypeId
  sz : Nat
  bytes : Nat
  z : Value
  cells : α → List Value
structure EncOk {α : Type} (P : Program) (e : Enc α) : Prop where
  ti : TI P e.T e.z e.sz e.bytes
  zs : e.z.cells.size = e.sz
  pos : 0 < e.sz
  len : ∀ x, (e.cells x).length = e.sz
  one : ∀ x, ∀ v ∈ e.cells x, v.oneCell' = true
def flat {α : Type} (e : Enc α) (xs : List α) : List Value := xs.flatMap e.cells
section
variable {α : Type} {P : Program} {e : Enc α}
theorem flat_append (xs ys : List α) : flat e (xs ++ ys) = flat e xs ++ flat e ys := by simp [flat]
theorem flat_length (ok : EncOk P e) (xs : List α) : (flat e xs).length = xs.length * e.sz := by
  induction xs with
  | nil => simp [flat]
  | cons x xs ih =>
    have : flat e (x :: xs) = e.cells x ++ flat e xs := rfl
    rw [this, List.length_append, ok.len, ih, List.length_cons, Nat.add_mul, Nat.one_mul, Nat.add_comm]
theorem flat_one (ok : EncOk P e) (xs : List α) : ∀ v ∈ flat e xs, v.oneCell' = true := fun v hv => by
  simp only [flat, List.mem_flatMap] at hv
  obtain ⟨x, _, hx⟩ := hv
  exact ok.one x v hx
theorem flat_get (ok : EncOk P e) {xs : List α} {i : Nat} {x : α} (hx : xs[i]? = some x) {o : Nat} {u : Value} (ho : (e.cells x)[o]? = some u) : (flat e xs)[i * e.sz + o]? = some u := by
  induction xs generalizing i with
  | nil => cases hx
  | cons y ys ih =>
    have h0 : flat e (y :: ys) = e.cells y ++ flat e ys := rfl
    rw [h0]
    cases i with
    | zero =>
      simp only [List.getElem?_cons_zero, Option.some.injEq] at hx
      subst hx
      rw [Nat.zero_mul, Nat.zero_add, List.getElem?_append_left (List.getElem?_eq_some_iff.1 ho).1]
      exact ho
    | succ i =>
      rw [List.getElem?_append_right (by rw [ok.len, Nat.add_mul]; omega), ok.len, Nat.add_mul, Nat.one_mul]
      rw [show i * e.sz + e.sz + o - e.sz = i * e.sz + o by omega]
      exact ih (by simpa using hx)
theorem flat_set (ok : EncOk P e) {xs : List α} {i : Nat} {x y : α} (hx : xs[i]? = some x) (o : Nat) (u : Value) (ho : o < e.sz) (hy : e.cells y = (e.cells x).set o u) : (flat e xs).set (i * e.sz + o) u = flat e (xs.set i y) := by
  induction xs generalizing i with
  | nil => cases hx
  | cons z zs ih =>
    have h0 : flat e (z :: zs) = e.cells z ++ flat e zs := rfl
    rw [h0]
    cases i with
    | zero =>
      simp only [List.getElem?_cons_zero, Option.some.injEq] at hx
      subst hx
      rw [Nat.zero_mul, Nat.zero_add, List.set_append_left _ _ (by rw [ok.len]; exact ho), ← hy]
      rfl
    | succ i =>
      rw [List.set_append_right _ _ (by rw [ok.len, Nat.add_mul]; omega), ok.len, Nat.add_mul, Nat.one_mul]
      rw [show i * e.sz + e.sz + o - e.sz = i * e.sz + o by omega, ih (by simpa using hx)]
      rfl
end
/-- A slice whose elements can be read. -/
def SlR {α : Type} (w : World) (e : Enc α) (a : Option Addr) (xs : List α) : Prop := xs ≠ [] → ∃ ad, a = some ad ∧ ∀ j u, (flat e xs)[j]? = some u → w.cell? (ad.add j) = some u
def RdS {α : Type} (W : World) (L : List Res) (e : Enc α) (a : Option Addr) (xs : List α) : Prop := ∀ w, Sat W w L → SlR w e a xs
section
variable {α : Type} {P : Program} {e : Enc α} {W w : World} {L : List Res} {a : Option Addr} {xs : List α} {c : Nat}
theorem flat_ne (ok : EncOk P e) (h : xs ≠ []) : flat e xs ≠ [] := fun h0 => h (by
  have h2 := flat_length ok xs
  rw [h0, List.length_nil] at h2
  have h3 := ok.pos
  rcases Nat.eq_zero_or_pos xs.length with hz | hz
  · exact List.eq_nil_of_length_eq_zero hz
  · have := Nat.mul_pos hz h3; omega)
theorem Sat.own_rds (ok : EncOk P e) (S : Sat W w (row e.T e.sz a xs.length c (flat e xs) :: L)) : SlR w e a xs := fun hne => by
  obtain ⟨g, rfl⟩ := S.own_at (flat_ne ok hne)
  refine ⟨_, rfl, fun j u hj => ?_⟩
  rw [Addr.add_mk, Nat.zero_add]
  exact S.own_cell j u hj
theorem rds_own (ok : EncOk P e) (i : Nat) (h : L[i]? = some (row e.T e.sz a xs.length c (flat e xs))) : RdS W L e a xs := fun w S => by
  obtain ⟨L', S'⟩ := mem_front (List.mem_of_getElem? h) S
  exact S'.own_rds ok
theorem rd_sl (ok : EncOk P e) {ad : Addr} (ha : a = some ad) (h : RdS W L e a xs) {i : Nat} {x : α} (hx : xs[i]? = some x) {o : Nat} {u : Value} (ho : (e.cells x)[o]? = some u) : Rd W L (ad.add (i * e.sz + o)) u := fun w S => by
  subst ha
  obtain ⟨ad', he, hc⟩ := h w S (fun h0 => by subst h0; cases hx)
  cases he
  exact hc _ _ (flat_get ok hx ho)
theorem rd_sl0 (ok : EncOk P e) {ad : Addr} (ha : a = some ad) (h : RdS W L e a xs) {i : Nat} {x : α} (hx : xs[i]? = some x) {u : Value} (ho : (e.cells x)[0]? = some u) : Rd W L (ad.add (i * e.sz)) u := rd_sl ok ha h hx ho
theorem rdn_sl (ok : EncOk P e) {ad : Addr} (ha : a = some ad) (h : RdS W L e a xs) {i : Nat} {x : α} (hx : xs[i]? = some x) : RdN W L (ad.add (i * e.sz)) (e.cells x) := fun w S o u ho => by
  rw [Addr.add_add']
  exact rd_sl ok ha h hx ho w S
theorem RdS.below (h : RdS W L e a xs) {L2 : List Res} (hc : ∀ w, Sat W w L2 → Sat W w L) : RdS W L2 e a xs := fun w S => h w (hc w S)
/-- In the old world itself. -/
theorem rds_old (h : SlR W e a xs) : RdS W L e a xs := fun w S hne => by
  obtain ⟨ad, he, hc⟩ := h hne
  exact ⟨ad, he, fun j u hj => (S.below.cell (World.block_lt_of_cell? W _ (hc j u hj))).trans (hc j u hj)⟩
end

theorem cells_one {v : Value} (hv : v.oneCell' = true) : v.cells = #[v] := by cases v <;> first | rfl | (simp [Value.oneCell'] at hv)
theorem run_store_one {P : Program} {w : World} {p : Addr} {v u : Value} (hv : v.oneCell' = true) (h1 : w.cell? p = some u) (h2 : w.frozen? p = false) : (store p v).run P w = .ok () (w.setCell p v) := by
  cases v <;> first | (simp [Value.oneCell'] at hv; done) | simp [store, Sem.run, h1, h2]

/-! ### The steps -/
section
variable {P : Program} {N : FN} {l : Fr} {W : World} {L L0 : List Res} {Q : Exit → Act → World → Prop} {ops : Array Oper} {rest : List Oper}
variable {d : Nat} {ty : TypeId} {pos : String} {af : Array Edge}
theorem o_load1 {t : TypeId} {x : Operand} {p : Addr} {td : TypeDesc} {v : Value} (hd : Nat.ble (d + 1) N = true) (hx : opv l x = some (.pointer (some p))) (hu : P.underlying t = some td) (ha : aggD td = false) (hr : Rd W L p v)
    (h : WL P ops Q rest N ((d, v) :: l) W L) : WL P ops Q (⟨some d, .load t x, ty, pos, af, none⟩ :: rest) N l W L :=
  o_val hd (fun a w K S => by simp [execOp, K.eval hx, Instr.loadAt, Instr.sureAddr, loadVar, run_isAgg hu, ha, hr w S]) h
theorem o_loadn {t : TypeId} {x : Operand} {p : Addr} {td : TypeDesc} {z : Value} {b : Nat} {vs : List Value} (hd : Nat.ble (d + 1) N = true) (hx : opv l x = some (.pointer (some p))) (hu : P.underlying t = some td) (ha : aggD td = true) (hi : TI P t z vs.length b) (hr : RdN W L p vs)
    (h : WL P ops Q rest N ((d, .agg vs.toArray) :: l) W L) : WL P ops Q (⟨some d, .load t x, ty, pos, af, none⟩ :: rest) N l W L :=
  o_val hd (fun a w K S => by
    have := run_loadCells_list (P := P) w p vs (hr w S)
    simp [execOp, K.eval hx, Instr.loadAt, Instr.sureAddr, loadVar, run_isAgg hu, ha, run_sizeOf' hi, this]) h
theorem o_store1 {t : TypeId} {x y : Operand} {k j T : Nat} {cs cs' : Array Value} {z v : Value} {b : Nat} (hx : opv l x = some (.pointer (some ⟨k, j, none⟩))) (hy : opv l y = some v) (hv : v.oneCell' = true) (hi : TI P t z 1 b) (hj0 : Nat.ble (j + 1) cs.size = true) (hc : cs.setIfInBounds j v = cs')
    (h : WL P ops Q rest N l W (blk k (.cells cs' T (0, 0)) :: L)) : WL P ops Q (⟨none, .store t x y, ty, pos, af, none⟩ :: rest) N l W (blk k (.cells cs T (0, 0)) :: L) :=
  o_skip (fun a w K S => ⟨w.setCell ⟨k, j, none⟩ v, by
    have h1 := S.cell j
    have h2 := S.frozen j
    have hj : j < cs.size := Nat.le_of_ble_eq_true hj0
    rw [Array.getElem?_eq_getElem hj] at h1
    simp only [execOp, K.eval hx, K.eval hy, Instr.storeAt, Instr.sureAddr, storeVar]
    have h3 := cells_one hv
    simp [run_sizeOf' hi, h3, storeCells, Addr.add, run_store_one hv h1 h2], by
    subst hc
    exact S.setCell j v⟩) h
theorem o_storeOwn {t : TypeId} {x y : Operand} {g j T sz n c : Nat} {cs cs' : List Value} {z v : Value} {b : Nat} (hx : opv l x = some (.pointer (some ⟨g, j, none⟩))) (hy : opv l y = some v) (hv : v.oneCell' = true) (hi : TI P t z 1 b) (hj : j < cs.length) (hc : cs.set j v = cs')
    (h : WL P ops Q rest N l W (row T sz (some ⟨g, 0, none⟩) n c cs' :: L)) : WL P ops Q (⟨none, .store t x y, ty, pos, af, none⟩ :: rest) N l W (row T sz (some ⟨g, 0, none⟩) n c cs :: L) :=
  o_skip (fun a w K S => ⟨w.setCell ⟨g, j, none⟩ v, by
    have h1 := S.own_cell j cs[j] (List.getElem?_eq_getElem hj)
    have h2 := S.own_frozen j
    simp only [execOp, K.eval hx, K.eval hy, Instr.storeAt, Instr.sureAddr, storeVar]
    have h3 := cells_one hv
    simp [run_sizeOf' hi, h3, storeCells, Addr.add, run_store_one hv h1 h2], by
    subst hc
    exact S.own_set j v⟩) h
theorem setSegs {P : Program} {k T : Nat} : ∀ (vs : List Value) (j i : Nat) (cs : Array Value) (w : World), w.heap[k]? = some (.cells cs T (0, 0)) → j + i + vs.length ≤ cs.size → (∀ v ∈ vs, v.oneCell' = true) →
    (storeCells ⟨k, j, none⟩ vs i).run P w = .ok () (w.setRow k (cs.toList.take (j + i) ++ vs ++ cs.toList.drop (j + i + vs.length)).toArray) := fun vs j i cs w => run_storeCells_at P k j T vs i cs w
theorem o_storen {t : TypeId} {x y : Operand} {k j T : Nat} {cs cs' vs : Array Value} {z : Value} {b : Nat} (hx : opv l x = some (.pointer (some ⟨k, j, none⟩))) (hy : opv l y = some (.agg vs)) (hi : TI P t z vs.size b) (hj : Nat.ble (j + vs.size) cs.size = true) (_h0 : (0 : Nat) = 0) (hvb : vs.toList.all (fun v => v.oneCell') = true)
    (hc : (cs.toList.take j ++ vs.toList ++ cs.toList.drop (j + vs.size)).toArray = cs') (h : WL P ops Q rest N l W (blk k (.cells cs' T (0, 0)) :: L)) : WL P ops Q (⟨none, .store t x y, ty, pos, af, none⟩ :: rest) N l W (blk k (.cells cs T (0, 0)) :: L) :=
  o_skip (fun a w K S => ⟨w.setRow k cs', by
    subst hc
    have hv : ∀ v ∈ vs.toList, v.oneCell' = true := fun v hv => List.all_eq_true.1 hvb v hv
    have h1 := run_storeCells_at P k j T vs.toList 0 cs w S.read.2 (by have := Nat.le_of_ble_eq_true hj; simpa using this) hv
    simp only [Nat.add_zero, Array.length_toList] at h1
    simp [execOp, K.eval hx, K.eval hy, Instr.storeAt, Instr.sureAddr, storeVar, run_sizeOf' hi, Value.cells, h1], by
    refine S.turn rfl rfl rfl (by simp [World.setRow]) (setRow_heap w k cs _ T _ S.read.2) (fun i hi => setRow_other w k i _ hi)⟩) h
theorem o_alloc {t : TypeId} {z : Value} {s b : Nat} (hd : Nat.ble (d + 1) N = true) (hi : TI P t z s b) (h : ∀ k, WL P ops Q rest N ((d, .pointer (some ⟨k, 0, none⟩)) :: l) W (blk k (.cells z.cells t (0, 0)) :: L)) :
    WL P ops Q (⟨some d, .alloc t, ty, pos, af, none⟩ :: rest) N l W L :=
  o_runx hd (vv := fun k => .pointer (some ⟨k, 0, none⟩)) (LL := fun k => blk k (.cells z.cells t (0, 0)) :: L) (fun a w K S => ⟨w.heap.size, w.alloc (.cells z.cells t), by simp [execOp, Instr.alloc, run_zeroValue' hi, newVar, newRow], S.alloc _⟩) h
theorem o_box {t : TypeId} {x : Operand} {v : Value} (hd : Nat.ble (d + 1) N = true) (hx : opv l x = some v) (h : ∀ k, WL P ops Q rest N ((d, .pointer (some ⟨k, 0, none⟩)) :: l) W (blk k (.cells v.cells t (0, 0)) :: L)) :
    WL P ops Q (⟨some d, .box t x, ty, pos, af, none⟩ :: rest) N l W L :=
  o_runx hd (vv := fun k => .pointer (some ⟨k, 0, none⟩)) (LL := fun k => blk k (.cells v.cells t (0, 0)) :: L) (fun a w K S => ⟨w.heap.size, w.alloc (.cells v.cells t), by simp [execOp, Instr.box, K.eval hx, newVar, newRow], S.alloc _⟩) h
theorem o_index {α : Type} {e : Enc α} {t : TypeId} {x y : Operand} {a : Option Addr} {c : Nat} {k : IntKind} {q : Int} {xs : List α} (ok : EncOk P e) (hd : Nat.ble (d + 1) N = true) (hx : opv l x = some (.slice a xs.length c)) (hy : opv l y = some (.int k q)) (ht : P.underlying t = some (.slice e.T))
    (h0 : 0 ≤ q) (h1 : q < xs.length) (hr : RdS W L e a xs) (h : ∀ ad, a = some ad → WL P ops Q rest N ((d, .pointer (some (ad.add (q.toNat * e.sz)))) :: l) W L) :
    WL P ops Q (⟨some d, .indexAddr t x y, ty, pos, af, none⟩ :: rest) N l W L :=
  o_runx (α := { ad : Addr // a = some ad }) hd (vv := fun ad => .pointer (some (ad.1.add (q.toNat * e.sz)))) (LL := fun _ => L) (fun b w K S => by
    obtain ⟨ad, rfl, hc⟩ := hr w S (fun h0 => by subst h0; simp at h1; omega)
    exact ⟨⟨ad, rfl⟩, w, by simp [execOp, K.eval hx, K.eval hy, Instr.indexAt, asIntOf, run_underlying ht, h0, h1, run_sizeOf' ok.ti], S⟩) fun x => h x.1 x.2
theorem o_indexK {α : Type} {e : Enc α} {t : TypeId} {x y : Operand} {a : Option Addr} {ad : Addr} {n c : Nat} {k : IntKind} {q : Int} (ok : EncOk P e) (ea : a = some ad) (hd : Nat.ble (d + 1) N = true) (hx : opv l x = some (.slice a n c)) (hy : opv l y = some (.int k q)) (ht : P.underlying t = some (.slice e.T))
    (h0 : 0 ≤ q) (h1 : q < n) (h : WL P ops Q rest N ((d, .pointer (some (ad.add (q.toNat * e.sz)))) :: l) W L) :
    WL P ops Q (⟨some d, .indexAddr t x y, ty, pos, af, none⟩ :: rest) N l W L :=
  o_val hd (fun b w K S => by
    subst ea
    simp [execOp, K.eval hx, K.eval hy, Instr.indexAt, asIntOf, run_underlying ht, h0, h1, run_sizeOf' ok.ti]) h
theorem rds_some {α : Type} {e : Enc α} {a : Option Addr} {xs : List α} (h : RdS W L e a xs) (hne : xs ≠ []) : ∀ w, Sat W w L → ∃ ad, a = some ad := fun w S => let ⟨ad, h1, _⟩ := h w S hne; ⟨ad, h1⟩
theorem rds_nilq {α : Type} {e : Enc α} {a : Option Addr} {xs : List α} (h : RdS W L e a xs) : ∀ w, Sat W w L → a = none → xs = [] := fun w S ha => Classical.byContradiction fun hne => by
  obtain ⟨ad, h1, _⟩ := h w S hne
  rw [ha] at h1; cases h1
theorem rds_c {α : Type} {e : Enc α} {a : Option Addr} {xs : List α} {A : Res} (h : RdS W L e a xs) : RdS W (A :: L) e a xs := fun w S => h w S.tail
theorem Sat.row_addr {w : World} {T sz n c : Nat} {a : Option Addr} {ad : Addr} {cs : List Value} (ea : a = some ad) (S : Sat W w (row T sz a n c cs :: L)) : ∃ g, ad = ⟨g, 0, none⟩ := by
  obtain ⟨_, ⟨rfl, _⟩ | ⟨g, cur, rfl, _⟩⟩ := S.own_cases
  · cases ea
  · cases ea; exact ⟨g, rfl⟩
theorem row_cap {T sz n c : Nat} {a : Option Addr} {cs : List Value} (i : Nat) (h : L[i]? = some (row T sz a n c cs)) : ∀ w, Sat W w L → n ≤ c := fun w S => by
  obtain ⟨L', S'⟩ := mem_front (List.mem_of_getElem? h) S
  exact S'.own_len.2.1
theorem row_len {T sz n c : Nat} {a : Option Addr} {cs : List Value} (i : Nat) (h : L[i]? = some (row T sz a n c cs)) : ∀ w, Sat W w L → n ≤ 9223372036854775807 := fun w S => by
  obtain ⟨L', S'⟩ := mem_front (List.mem_of_getElem? h) S
  have := S'.own_len
  simp only [maxLen] at this
  omega
theorem o_storeRow {α : Type} {e : Enc α} {t : TypeId} {x y : Operand} {a : Option Addr} {ad : Addr} {i o c : Nat} {xs : List α} {x0 x1 : α} {z v : Value} {b : Nat} (ok : EncOk P e) (ea : a = some ad) (hx : opv l x = some (.pointer (some (ad.add (i * e.sz + o))))) (hy : opv l y = some v) (hv : v.oneCell' = true) (hi : TI P t z 1 b)
    (hg : xs[i]? = some x0) (ho : o < e.sz) (hc : e.cells x1 = (e.cells x0).set o v) (h : WL P ops Q rest N l W (row e.T e.sz a (xs.set i x1).length c (flat e (xs.set i x1)) :: L)) : WL P ops Q (⟨none, .store t x y, ty, pos, af, none⟩ :: rest) N l W (row e.T e.sz a xs.length c (flat e xs) :: L) := fun b' w K S => by
  obtain ⟨g, rfl⟩ := S.row_addr ea
  subst ea
  rw [Addr.add_mk, Nat.zero_add] at hx
  have hlt : i * e.sz + o < (flat e xs).length := by
    rw [flat_length ok]
    have h1 := (List.getElem?_eq_some_iff.1 hg).1
    have h2 : (i + 1) * e.sz ≤ xs.length * e.sz := Nat.mul_le_mul_right _ h1
    rw [Nat.add_mul] at h2
    omega
  rw [List.length_set] at h
  exact o_storeOwn hx hy hv hi hlt (flat_set ok hg o v ho hc) h b' w K S
theorem o_storeRow0 {α : Type} {e : Enc α} {t : TypeId} {x y : Operand} {a : Option Addr} {ad : Addr} {i c : Nat} {xs : List α} {x0 x1 : α} {z v : Value} {b : Nat} (ok : EncOk P e) (ea : a = some ad) (hx : opv l x = some (.pointer (some (ad.add (i * e.sz))))) (hy : opv l y = some v) (hv : v.oneCell' = true) (hi : TI P t z 1 b)
    (hg : xs[i]? = some x0) (hc : e.cells x1 = (e.cells x0).set 0 v) (h : WL P ops Q rest N l W (row e.T e.sz a (xs.set i x1).length c (flat e (xs.set i x1)) :: L)) : WL P ops Q (⟨none, .store t x y, ty, pos, af, none⟩ :: rest) N l W (row e.T e.sz a xs.length c (flat e xs) :: L) :=
  o_storeRow ok ea (o := 0) hx hy hv hi hg ok.pos hc h
theorem run_append_room_row {w w1 : World} (t ty e : TypeId) (i : TypeInfo) (ht : P.underlying t = some (.slice e)) (hi : P.info? e = some i)
    (b off sLen sCap : Nat) (a : Addr) (m c : Nat) (news : List Value) (hl : news.length = m * i.size) (hnews : ∀ j u, news[j]? = some u → w.cell? (a.add j) = some u)
    (hroom : sLen + m ≤ sCap) (hst : (storeCells ⟨b, off + sLen * i.size, none⟩ news 0).run P w = .ok () w1) :
    (Builtin.append_ #[t, t] ty #[.slice (some ⟨b, off, none⟩) sLen sCap, .slice (some a) m c]).run P w = .ok (.slice (some ⟨b, off, none⟩) (sLen + m) sCap) w1 := by
  have hfc := run_firstCells_some (P := P) w i.size m a m c news hl hnews
  simp [Builtin.append_, run_underlying ht, sizeOf, typeInfo, hi, Builtin.lenOf, hroom, hfc, Addr.add_lit, hst]
theorem o_append {α : Type} {e : Enc α} {t : TypeId} {x y : Operand} {a b : Option Addr} {c c2 : Nat} {xs ys : List α} (ok : EncOk P e) (hd : Nat.ble (d + 1) N = true) (hx : opv l x = some (.slice a xs.length c)) (hy : opv l y = some (.slice b ys.length c2)) (ht : P.underlying t = some (.slice e.T))
    (hr : RdS W (row e.T e.sz a xs.length c (flat e xs) :: L) e b ys) (hb : (xs.length + ys.length) * e.bytes ≤ 140737488355328) (hm : xs.length + ys.length ≤ 140737488355328)
    (h : ∀ a' c', WL P ops Q rest N ((d, .slice a' (xs ++ ys).length c') :: l) W (row e.T e.sz a' (xs ++ ys).length c' (flat e (xs ++ ys)) :: L)) :
    WL P ops Q (⟨some d, .call { callee := .builtin .append, args := #[x, y], argTypes := #[t, t] }, ty, pos, af, none⟩ :: rest) N l W (row e.T e.sz a xs.length c (flat e xs) :: L) :=
  o_runx (α := Option Addr × Nat) hd (vv := fun p => .slice p.1 (xs ++ ys).length p.2) (LL := fun p => row e.T e.sz p.1 (xs ++ ys).length p.2 (flat e (xs ++ ys)) :: L) (fun ac w K S => by
    obtain ⟨i, hi, hz, hs, hby⟩ := ok.ti.get
    cases b with
    | some bd =>
      have hnews : ∀ j u, (flat e ys)[j]? = some u → w.cell? (bd.add j) = some u := fun j u hj => by
        by_cases hys : ys = []
        · subst hys; simp [flat] at hj
        · obtain ⟨ad, he, hc⟩ := hr w S hys
          cases he
          exact hc j u hj
      have hny := flat_length ok ys
      obtain ⟨hl, ⟨h1, h2, h3, S'⟩ | ⟨g, cur, h1, h2, h3, h4, h5, S'⟩⟩ := S.own_cases
      · subst h1; subst h3
        have hxs : xs = [] := List.eq_nil_of_length_eq_zero h2
        subst hxs
        obtain ⟨v', w', h1, h2, h3, _, h5⟩ := run_append_own_at (P := P) w w.heap.size t ty e.T i e.z e.sz e.bytes ht hi hz hs hby ok.zs ok.pos (.slice none 0 0) 0 [] (World.ownsRow_nil w _ e.T e.sz) bd ys.length c2 (flat e ys) hny hnews (flat_one ok ys) (by simp only [maxLen]; omega) (by simpa using hb) (Nat.le_refl _)
        obtain ⟨a', c', rfl, S2⟩ := S'.tail.own_new h2 (by simpa [Value.ownBlock] using h3)
        refine ⟨(a', c'), w', ?_, by simpa [flat_append] using S2⟩
        simp [execOp, resolve, invoke, builtin, K.eval hx, K.eval hy, h1]
      · subst h1
        by_cases hroom : xs.length + ys.length ≤ c
        · have hle : (xs.length + ys.length) * e.sz ≤ cur.size := Nat.le_trans (Nat.mul_le_mul_right _ hroom) h4
          rw [Nat.add_mul] at hle
          have hst := run_storeCells_at P g (xs.length * e.sz) e.T (flat e ys) 0 cur w S'.read.2 (by simp; omega) (flat_one ok ys)
          simp only [Nat.add_zero] at hst
          rw [← hs] at hst hny
          have hrun := run_append_room_row (P := P) t ty e.T i ht hi g 0 xs.length c bd ys.length c2 (flat e ys) hny hnews hroom (by rw [Nat.zero_add]; exact hst)
          refine ⟨(some ⟨g, 0, none⟩, c), w.setRow g (cur.toList.take (xs.length * e.sz) ++ flat e ys ++ cur.toList.drop (xs.length * e.sz + (flat e ys).length)).toArray, ?_, ?_⟩
          · rw [← hs]
            simp [execOp, resolve, invoke, builtin, K.eval hx, K.eval hy, hrun]
          · have S2 : Sat W (w.setRow g (cur.toList.take (xs.length * e.sz) ++ flat e ys ++ cur.toList.drop (xs.length * e.sz + (flat e ys).length)).toArray) (blk g (.cells (cur.toList.take (xs.length * e.sz) ++ flat e ys ++ cur.toList.drop (xs.length * e.sz + (flat e ys).length)).toArray e.T (0, 0)) :: L) :=
              S'.turn rfl rfl rfl (by simp [World.setRow]) (setRow_heap w g cur _ e.T _ S'.read.2) (fun q hq => setRow_other w g q _ hq)
            rw [hs] at hny
            refine S2.own_mk (by rw [List.length_append]; exact hroom) h3 ?_ ?_
            · rw [List.size_toArray]; simp only [List.length_append, List.length_take, List.length_drop, Array.length_toList]; omega
            · rw [List.toList_toArray, h5, ← flat_append]
              refine List.take_left' ?_
              rw [flat_length ok]
        · obtain ⟨v', w', h1, h2', h3'⟩ := run_append_arg_grows (P := P) w t ty e.T i e.z e.sz e.bytes ht hi hz hs hby ok.zs ok.pos ⟨g, 0, none⟩ xs.length c (flat e xs) (flat_length ok xs) (fun j u hj => by
            rw [Addr.add_lit, Nat.zero_add]
            exact S.own_cell j u hj) bd ys.length c2 (flat e ys) hny hnews (by omega) (by simp only [maxLen]; omega) hb
          obtain ⟨a', c', rfl, S2⟩ := S'.tail.own_new h2' h3'
          refine ⟨(a', c'), w', ?_, by simpa [flat_append] using S2⟩
          simp [execOp, resolve, invoke, builtin, K.eval hx, K.eval hy, h1]
    | none =>
      have hys : ys = [] := Classical.byContradiction fun h0 => by
        obtain ⟨ad, he, _⟩ := hr w S h0
        cases he
      subst hys
      refine ⟨(a, c), w, ?_, by simpa using S⟩
      have := S.own_len
      simp [execOp, resolve, invoke, builtin, K.eval hx, K.eval hy, Builtin.append_, run_underlying ht, sizeOf, typeInfo, hi, Builtin.lenOf, Builtin.firstCells, this.2.1]
      cases a <;> simp [storeCells]) fun p => h p.1 p.2
theorem o_indexArr {t e n : Nat} {x y : Operand} {p p' : Addr} {k : IntKind} {q : Int} {z : Value} {s b : Nat} (hd : Nat.ble (d + 1) N = true) (hx : opv l x = some (.pointer (some p))) (hy : opv l y = some (.int k q)) (ht : P.underlying t = some (.array n e)) (hi : TI P e z s b)
    (h0 : 0 ≤ q) (h1 : q < n) (hp : p.add (q.toNat * s) = p') (h : WL P ops Q rest N ((d, .pointer (some p')) :: l) W L) :
    WL P ops Q (⟨some d, .indexAddr t x y, ty, pos, af, none⟩ :: rest) N l W L :=
  o_val hd (fun a w K S => by
    simp [execOp, K.eval hx, K.eval hy, Instr.indexAt, asIntOf, run_underlying ht, h0, h1, run_sizeOf' hi, Instr.sureAddr, hp]) h
theorem o_storeArr {t : TypeId} {x y : Operand} {k j T : Nat} {cs cs' : Array Value} {z v : Value} {b : Nat} (hx : opv l x = some (.pointer (some ⟨k, j, none⟩))) (hy : opv l y = some v) (hv : v.oneCell' = true) (hi : TI P t z 1 b) (hj : j < cs.size) (hc : cs.setIfInBounds j v = cs')
    (h : WL P ops Q rest N l W (blk k (.cells cs' T (0, 0)) :: L)) : WL P ops Q (⟨none, .store t x y, ty, pos, af, none⟩ :: rest) N l W (blk k (.cells cs T (0, 0)) :: L) :=
  o_store1 hx hy hv hi (Nat.ble_eq_true_of_le hj) hc h
/-- x[lo:hi:max] of a slice: the address moves on. -/
def cutA (a : Option Addr) (m lo sz : Nat) : Option Addr := if m = lo then a else a.map (·.add (lo * sz))
theorem o_cut {t e : Nat} {x : Operand} {lo hi mx : Option Operand} {a : Option Addr} {n c l' h' m : Nat} {z : Value} {s b : Nat} (hd : Nat.ble (d + 1) N = true) (hx : opv l x = some (.slice a n c)) (ht : P.underlying t = some (.slice e)) (hi' : TI P e z s b)
    (hm : (mx = none ∧ m = c) ∨ ∃ o k, mx = some o ∧ opv l o = some (.int k (m : Int)) ∧ m ≤ c) (hh : (hi = none ∧ mx = none ∧ h' = n) ∨ ∃ o k, hi = some o ∧ opv l o = some (.int k (h' : Int)) ∧ h' ≤ m) (hl : (lo = none ∧ l' = 0) ∨ ∃ o k, lo = some o ∧ opv l o = some (.int k (l' : Int)) ∧ l' ≤ h')
    (h : WL P ops Q rest N ((d, .slice (cutA a m l' s) (h' - l') (m - l')) :: l) W L) : WL P ops Q (⟨some d, .slice t x lo hi mx, ty, pos, af, none⟩ :: rest) N l W L :=
  o_val hd (fun w0 w K S => by
    have hb : (Instr.sliceBounds true n c (lo.map w0.eval) (hi.map w0.eval) (mx.map w0.eval)).run P w = .ok (l', h', m) w := by
      unfold Instr.sliceBounds
      rcases hm with ⟨rfl, rfl⟩ | ⟨om, km, rfl, hom, hmc⟩ <;> rcases hh with ⟨rfl, hx2, rfl⟩ | ⟨oh, kh, rfl, hoh, hhm⟩ <;> rcases hl with ⟨rfl, rfl⟩ | ⟨ol, kl, rfl, hol, hlh⟩ <;>
        first
        | (cases hx2; done)
        | simp_all [Instr.sliceBound, asIntOf, K.eval, Int.ofNat_le]
    simp only [execOp, K.eval hx, Instr.sliceAt, Instr.slice, Sem.run_bind, run_underlying ht, Result.andThen_ok]
    simp only [Sem.run_bind, run_underlying ht, Result.andThen_ok, hb, run_sizeOf' hi', cutA]
    simp) h
end
end Go.Proofs.Ytlblipkcbmcfkaa
