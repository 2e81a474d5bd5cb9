/- More of memory: whole elements of rows, blocks whose cells are lists of bools, pieces. -/
import Derived.Test.YtlblipkcbmcfkaaRange
import Derived.Test.YtlblipkcbmcfkaaVal
set_option linter.unusedVariables false
set_option linter.unusedSimpArgs false
namespace Go.Proofs.Ytlblipkcbmcfkaa
open Go.RowKit
theorem flat_setAll {α : Type} {P : Program} {e : Enc α} (ok : EncOk P e) (x1 : α) {xs : List α} {i : Nat} (h : i < xs.length) : (flat e xs).take (i * e.sz) ++ e.cells x1 ++ (flat e xs).drop (i * e.sz + e.sz) = flat e (xs.set i x1) := by
  rw [List.set_eq_take_append_cons_drop, if_pos h, flat_append, flat_take ok]
  have h1 : flat e (x1 :: xs.drop (i + 1)) = e.cells x1 ++ flat e (xs.drop (i + 1)) := rfl
  rw [h1, flat_drop ok, Nat.add_mul, Nat.one_mul, List.append_assoc]
theorem take_mid {α : Type} {A vs : List α} {j n : Nat} (h : j + vs.length ≤ n) (hA : n ≤ A.length) : (A.take j ++ vs ++ A.drop (j + vs.length)).take n = (A.take n).take j ++ vs ++ (A.take n).drop (j + vs.length) := by
  apply List.ext_getElem?
  intro k
  simp only [List.getElem?_append, List.getElem?_take, List.getElem?_drop, List.length_append, List.length_take]
  grind
/-! ### Blocks made of pieces -/
theorem sg_arr {l : List Value} {j : Nat} {v : Value} (h : l[j]? = some v) : l.toArray[j]? = some v := by simpa using h
theorem sg_skip {A R : List Value} {n j k : Nat} {v : Value} (hA : A.length = n) (hk : k = n + j) (h : R[j]? = some v) : (A ++ R)[k]? = some v := by
  subst hA; subst hk
  rw [List.getElem?_append_right (by omega)]
  simpa using h
theorem sg_in {A R : List Value} {j : Nat} {v : Value} (h : A[j]? = some v) : (A ++ R)[j]? = some v := by
  rw [List.getElem?_append_left (List.getElem?_eq_some_iff.1 h).1]; exact h
theorem sg_flat {α : Type} {P : Program} {e : Enc α} (ok : EncOk P e) {xs : List α} {i o s j : Nat} {x : α} {u : Value} (hs : e.sz = s) (hx : xs[i]? = some x) (ho : (e.cells x)[o]? = some u) (hj : j = i * s + o) : (flat e xs)[j]? = some u := by
  subst hj; subst hs; exact flat_get ok hx ho
theorem sg_len {α : Type} {P : Program} {e : Enc α} (ok : EncOk P e) {xs : List α} {n s m : Nat} (hs : e.sz = s) (hx : xs.length = n) (hm : n * s = m) : (flat e xs).length = m := by
  rw [flat_length ok, hs, hx, hm]
theorem st_skip {A R R' : List Value} {n j k : Nat} {v : Value} (hA : A.length = n) (hk : k = n + j) (h : R.set j v = R') : (A ++ R).set k v = A ++ R' := by
  subst hA; subst hk; subst h
  rw [List.set_append_right _ _ (by omega)]; simp
theorem st_in {A A' R : List Value} {j : Nat} {v : Value} (hj : j < A.length) (h : A.set j v = A') : (A ++ R).set j v = A' ++ R := by
  subst h; rw [List.set_append_left _ _ hj]
theorem st_flat {α : Type} {P : Program} {e : Enc α} (ok : EncOk P e) {xs : List α} {i o s j : Nat} {x y : α} {u : Value} (hs : e.sz = s) (hx : xs[i]? = some x) (ho : o < s) (hy : e.cells y = (e.cells x).set o u) (hj : j = i * s + o) : (flat e xs).set j u = flat e (xs.set i y) := by
  subst hj; subst hs; exact flat_set ok hx o u ho hy
theorem st_arr {l l' : List Value} {j : Nat} {v : Value} (h : l.set j v = l') : l.toArray.setIfInBounds j v = l'.toArray := by simp [h]
theorem sz_arr {l : List Value} {n j : Nat} (h : l.length = n) (hj : j < n) : j < l.toArray.size := by simp [h, hj]
theorem ln_app {A R : List Value} {n m : Nat} (hA : A.length = n) (hR : R.length = m) : (A ++ R).length = n + m := by rw [List.length_append, hA, hR]
/-- Pieces of whole cells: what stands from place j on is vs. -/
theorem rn_skip {A R vs : List Value} {n j k : Nat} (hA : A.length = n) (hk : k = n + j) (h : ∀ o u, vs[o]? = some u → R[j + o]? = some u) : ∀ o u, vs[o]? = some u → (A ++ R)[k + o]? = some u := fun o u ho => by
  subst hA; subst hk
  rw [List.getElem?_append_right (by omega), show A.length + j + o - A.length = j + o by omega]
  exact h o u ho
theorem rn_in {A R vs : List Value} {j : Nat} (h : ∀ o u, vs[o]? = some u → A[j + o]? = some u) : ∀ o u, vs[o]? = some u → (A ++ R)[j + o]? = some u := fun o u ho => sg_in (h o u ho)
theorem rn_all {A : List Value} : ∀ o u, A[o]? = some u → A[0 + o]? = some u := fun o u ho => by rw [Nat.zero_add]; exact ho
theorem rn_flat {α : Type} {P : Program} {e : Enc α} (ok : EncOk P e) {xs : List α} {i s j : Nat} {x : α} (hs : e.sz = s) (hx : xs[i]? = some x) (hj : j = i * s) : ∀ o u, (e.cells x)[o]? = some u → (flat e xs)[j + o]? = some u := fun o u ho => by
  subst hj; subst hs; exact flat_get ok hx ho
theorem rn_arr {l vs : List Value} {j : Nat} (h : ∀ o u, vs[o]? = some u → l[j + o]? = some u) : ∀ o u, vs[o]? = some u → l.toArray[j + o]? = some u := fun o u ho => sg_arr (h o u ho)
/-- vs in the place of a piece. -/
theorem pn_skip {A R R' vs : List Value} {n j k : Nat} (hA : A.length = n) (hk : k = n + j) (h : R.take j ++ vs ++ R.drop (j + vs.length) = R') : (A ++ R).take k ++ vs ++ (A ++ R).drop (k + vs.length) = A ++ R' := by
  subst hA; subst hk; subst h
  rw [List.take_length_add_append, Nat.add_assoc, List.drop_length_add_append]
  simp
theorem pn_in {B R vs : List Value} (h : vs.length = B.length) : (B ++ R).take 0 ++ vs ++ (B ++ R).drop (0 + vs.length) = vs ++ R := by
  rw [Nat.zero_add, h, List.drop_left]; simp
theorem pn_all {B vs : List Value} (h : vs.length = B.length) : B.take 0 ++ vs ++ B.drop (0 + vs.length) = vs := by
  rw [Nat.zero_add, h]; simp
theorem pn_flat {α : Type} {P : Program} {e : Enc α} (ok : EncOk P e) (x1 : α) {xs : List α} {i s j : Nat} {vs : List Value} (hs : e.sz = s) (hv : vs = e.cells x1) (hi : i < xs.length) (hj : j = i * s) : (flat e xs).take j ++ vs ++ (flat e xs).drop (j + vs.length) = flat e (xs.set i x1) := by
  subst hj; subst hs; subst hv
  rw [ok.len]; exact flat_setAll ok x1 hi
theorem pn_inx {A R A' vs : List Value} {j : Nat} (hj : j + vs.length ≤ A.length) (h : A.take j ++ vs ++ A.drop (j + vs.length) = A') : (A ++ R).take j ++ vs ++ (A ++ R).drop (j + vs.length) = A' ++ R := by
  subst h
  rw [List.take_append_of_le_length (by omega), List.drop_append_of_le_length hj]
  simp
section
variable {P : Program} {N : FN} {l : Fr} {W : World} {L L0 : List Res} {Q : Exit → Act → World → Prop} {ops : Array Oper} {rest : List Oper}
variable {d : Nat} {ty : TypeId} {pos : String} {af : Array Edge}
theorem o_storeRowAll {α : Type} {e : Enc α} {t : TypeId} {x y : Operand} {a : Option Addr} {ad : Addr} {i c : Nat} {xs : List α} {z : Value} {b : Nat} {vs : Array Value} (ok : EncOk P e) (ea : a = some ad) (hx : opv l x = some (.pointer (some (ad.add (i * e.sz))))) (hy : opv l y = some (.agg vs)) (hi : TI P t z e.sz b)
    (x1 : α) (hc : vs.toList = e.cells x1) (hlt : i < xs.length) (h : WL P ops Q rest N l W (row e.T e.sz a (xs.set i x1).length c (flat e (xs.set i x1)) :: L)) : WL P ops Q (⟨none, .store t x y, ty, pos, af, none⟩ :: rest) N l W (row e.T e.sz a xs.length c (flat e xs) :: L) := fun b' w K S => by
  obtain ⟨hl, ⟨h1, h2, _⟩ | ⟨g, cur, h1, h2, h3, h4, h5, S'⟩⟩ := S.own_cases
  · omega
  · rw [h1] at ea
    cases ea
    rw [Addr.add_mk, Nat.zero_add] at hx
    have hvs : vs.size = e.sz := by rw [← Array.length_toList, hc, ok.len]
    have hbig : i * e.sz + e.sz ≤ xs.length * e.sz := by
      have : (i + 1) * e.sz ≤ xs.length * e.sz := Nat.mul_le_mul_right _ hlt
      rwa [Nat.add_mul, Nat.one_mul] at this
    have hcs : xs.length * e.sz ≤ c * e.sz := Nat.mul_le_mul_right _ h2
    have hv : ∀ v ∈ vs.toList, v.oneCell' = true := fun v hv => ok.one x1 v (hc ▸ hv)
    have h6 := run_storeCells_at P g (i * e.sz) e.T vs.toList 0 cur w S'.read.2 (by simp; omega) hv
    simp only [Nat.add_zero, Array.length_toList] at h6
    have hvl : vs.toList.length = e.sz := by rw [hc, ok.len]
    have hT : ((cur.toList.take (i * e.sz) ++ vs.toList ++ cur.toList.drop (i * e.sz + vs.size)).toArray).toList.take (xs.length * e.sz) = flat e (xs.set i x1) := by
      have h7 := take_mid (A := cur.toList) (vs := vs.toList) (j := i * e.sz) (n := xs.length * e.sz) (by omega) (by have hcl : cur.toList.length = cur.size := Array.length_toList; omega)
      rw [hvl, h5, hc, flat_setAll ok x1 hlt] at h7
      rw [List.toList_toArray, hc, hvs]
      exact h7
    refine wpListIn_plain rfl fun k hk => wpIn_of_run (n := .skip) (w' := w.setRow g (cur.toList.take (i * e.sz) ++ vs.toList ++ cur.toList.drop (i * e.sz + vs.size)).toArray) ?_ (by simp) ?_
    · rw [← hvs] at hi
      simp [execOp, K.eval hx, K.eval hy, Instr.storeAt, Instr.sureAddr, storeVar, run_sizeOf' hi, Value.cells, h6]
    · subst h1
      have S2 : Sat W (w.setRow g (cur.toList.take (i * e.sz) ++ vs.toList ++ cur.toList.drop (i * e.sz + vs.size)).toArray) (blk g (.cells (cur.toList.take (i * e.sz) ++ vs.toList ++ cur.toList.drop (i * e.sz + vs.size)).toArray e.T (0, 0)) :: L) :=
        S'.turn rfl rfl rfl (by simp [World.setRow]) (setRow_heap w g cur _ e.T _ S'.read.2) (fun q hq => setRow_other w g q _ hq)
      have S3 := S2.own_mk (sz := e.sz) (c := c) (n := (xs.set i x1).length) (cs := flat e (xs.set i x1)) (by rw [List.length_set]; exact h2) h3 (by rw [List.size_toArray]; simp only [List.length_append, List.length_take, List.length_drop, Array.length_toList]; omega) (by rw [List.length_set]; exact hT)
      exact hk _ _ (h _ _ (K.none _) S3)
theorem o_loadSeg {t : TypeId} {x : Operand} {k j T n : Nat} {cs : List Value} {td : TypeDesc} {z : Value} {b : Nat} (vs : List Value) (i : Nat) (hL : L[i]? = some (blk k (.cells cs.toArray T (0, 0)))) (hd : Nat.ble (d + 1) N = true) (hx : opv l x = some (.pointer (some ⟨k, j, none⟩))) (hu : P.underlying t = some td) (ha : aggD td = true) (hi : TI P t z n b) (hn : vs.length = n)
    (hr : ∀ o u, vs[o]? = some u → cs[j + o]? = some u) (h : WL P ops Q rest N ((d, .agg vs.toArray) :: l) W L) : WL P ops Q (⟨some d, .load t x, ty, pos, af, none⟩ :: rest) N l W L :=
  o_loadn hd hx hu ha (by rw [hn]; exact hi) (rdn_mem i hL (rn_arr hr)) h
theorem o_storeSeg {t : TypeId} {x y : Operand} {k j T n m : Nat} {cs cs' vs : List Value} {z : Value} {b : Nat} (hx : opv l x = some (.pointer (some ⟨k, j, none⟩))) (hy : opv l y = some (.agg vs.toArray)) (hi : TI P t z n b) (hn : vs.length = n) (hm : cs.length = m) (hj : j + n ≤ m) (hvb : ∀ v ∈ vs, v.oneCell' = true)
    (hc : cs.take j ++ vs ++ cs.drop (j + vs.length) = cs') (h : WL P ops Q rest N l W (blk k (.cells cs'.toArray T (0, 0)) :: L)) : WL P ops Q (⟨none, .store t x y, ty, pos, af, none⟩ :: rest) N l W (blk k (.cells cs.toArray T (0, 0)) :: L) :=
  o_storen hx hy (by rw [List.size_toArray, hn]; exact hi) (Nat.ble_eq_true_of_le (by simp only [List.size_toArray]; omega)) rfl (List.all_eq_true.2 hvb) (by simpa using hc) h
theorem o_buildArr0 {t n e : TypeId} {z : Value} {s b s2 b2 : Nat} {ze : Value} (hd : Nat.ble (d + 1) N = true) (ht : P.underlying t = some (.array n e)) (hz : TI P t z s b) (he : TI P e ze s2 b2) (h : WL P ops Q rest N ((d, .agg z.cells) :: l) W L) :
    WL P ops Q (⟨some d, .build t #[], ty, pos, af, none⟩ :: rest) N l W L :=
  o_val hd (fun a w K S => by
    simp [execOp, Instr.build, run_zeroValue' hz, run_underlying ht, run_sizeOf' he, Instr.fill]) h
theorem o_buildArr {t n e : TypeId} {parts : Array (Nat × Operand)} {vps : List (Nat × Value)} {cells : Array Value} {z : Value} {s b s2 b2 : Nat} {ze : Value} (hd : Nat.ble (d + 1) N = true) (ht : P.underlying t = some (.array n e)) (hz : TI P t z s b) (he : TI P e ze s2 b2) (hp : oppsAny l parts.toList = some vps)
    (hf : Instr.fill (fun i => some (i * s2, s2)) z.cells vps = some cells) (h : WL P ops Q rest N ((d, .agg cells) :: l) W L) : WL P ops Q (⟨some d, .build t parts, ty, pos, af, none⟩ :: rest) N l W L :=
  o_val hd (fun a w K S => by
    have hps : (parts.map fun (p : Nat × Operand) => (p.1, a.eval p.2)).toList = vps := by
      have := oppsAny_map K hp
      simpa using this
    have hb : (Instr.build t (parts.map fun (p : Nat × Operand) => (p.1, a.eval p.2))).run P w = .ok (.agg cells) w := by
      unfold Instr.build
      rw [Sem.run_bind, run_zeroValue' hz, Result.andThen_ok]
      dsimp only
      rw [Sem.run_bind, run_underlying ht, Result.andThen_ok]
      dsimp only
      rw [Sem.run_bind, run_sizeOf' he, Result.andThen_ok, hps, hf]
      rfl
    simp only [execOp]
    rw [Sem.run_bind]
    first
      | (rw [hb]; rfl)
      | (erw [hb]; rfl)) h
theorem o_boxSeg {t : TypeId} {x : Operand} {vs : List Value} (hd : Nat.ble (d + 1) N = true) (hx : opv l x = some (.agg vs.toArray)) (h : ∀ k, WL P ops Q rest N ((d, .pointer (some ⟨k, 0, none⟩)) :: l) W (blk k (.cells vs.toArray t (0, 0)) :: L)) :
    WL P ops Q (⟨some d, .box t x, ty, pos, af, none⟩ :: rest) N l W L := o_box hd hx h
theorem v_loadSeg {t : TypeId} {x : Operand} {k j T n : Nat} {cs : List Value} {td : TypeDesc} {z : Value} {b : Nat} (vs : List Value) (i : Nat) (hL : L[i]? = some (blk k (.cells cs.toArray T (0, 0)))) (hd : Nat.ble (d + 1) N = true) (hx : opv l x = some (.pointer (some ⟨k, j, none⟩))) (hu : P.underlying t = some td) (ha : aggD td = true) (hi : TI P t z n b) (hn : vs.length = n)
    (hr : ∀ o u, vs[o]? = some u → cs[j + o]? = some u) : OV P N l W L ⟨some d, .load t x, ty, pos, af, none⟩ (.agg vs.toArray) :=
  v_loadn hd hx hu ha (by rw [hn]; exact hi) (rdn_mem i hL (rn_arr hr))
theorem v_buildArr0 {t n e : TypeId} {z : Value} {s b s2 b2 : Nat} {ze : Value} (hd : Nat.ble (d + 1) N = true) (ht : P.underlying t = some (.array n e)) (hz : TI P t z s b) (he : TI P e ze s2 b2) :
    OV P N l W L ⟨some d, .build t #[], ty, pos, af, none⟩ (.agg z.cells) := fun a w K S => by
  simp [execOp, Instr.build, run_zeroValue' hz, run_underlying ht, run_sizeOf' he, Instr.fill]
end
end Go.Proofs.Ytlblipkcbmcfkaa
