/- Parts of an element: several cells inside it, read and written. -/
import Derived.Test.YtlblipkcbmcfkaaIter
import Derived.Test.YtlblipkcbmcfkaaMem2
set_option linter.unusedVariables false
set_option linter.unusedSimpArgs false
namespace Go.Proofs.Ytlblipkcbmcfkaa
open Go.RowKit
section
variable {P : Program} {N : FN} {l : Fr} {W : World} {L L0 : List Res} {Q : Exit → Act → World → Prop} {ops : Array Oper} {rest : List Oper}
variable {d : Nat} {ty : TypeId} {pos : String} {af : Array Edge}
theorem flat_setN {α : Type} {e : Enc α} (ok : EncOk P e) {xs : List α} {i o : Nat} {x0 x1 : α} {vs : List Value} (hg : xs[i]? = some x0) (ho : o + vs.length ≤ e.sz) (hc : e.cells x1 = (e.cells x0).take o ++ vs ++ (e.cells x0).drop (o + vs.length)) :
    (flat e xs).take (i * e.sz + o) ++ vs ++ (flat e xs).drop (i * e.sz + o + vs.length) = flat e (xs.set i x1) := by
  obtain ⟨hi, rfl⟩ := List.getElem?_eq_some_iff.1 hg
  have h1 : flat e xs = flat e (xs.take i) ++ (e.cells xs[i] ++ flat e (xs.drop (i + 1))) := by
    conv => lhs; rw [← List.take_append_drop i xs, List.drop_eq_getElem_cons hi]
    rw [flat_append]; rfl
  have h2 : flat e (xs.set i x1) = flat e (xs.take i) ++ (e.cells x1 ++ flat e (xs.drop (i + 1))) := by
    rw [List.set_eq_take_append_cons_drop, if_pos hi, flat_append]; rfl
  rw [h1, h2]
  exact pn_skip (by rw [flat_length ok, List.length_take, Nat.min_eq_left (Nat.le_of_lt hi)]) rfl (pn_inx (by rw [ok.len]; exact ho) hc.symm)
theorem rdn_slo {α : Type} {e : Enc α} {a : Option Addr} {ad : Addr} {xs : List α} (ok : EncOk P e) (ha : a = some ad) (h : RdS W L e a xs) {i o n : Nat} {x : α} {vs : List Value} (hx : xs[i]? = some x) (hv : ((e.cells x).drop o).take n = vs) : RdN W L (ad.add (i * e.sz + o)) vs := fun w S j u hj => by
  rw [Addr.add_add', Nat.add_assoc]
  subst hv
  have hjn : j < n := by
    have := (List.getElem?_eq_some_iff.1 hj).1
    rw [List.length_take] at this
    omega
  rw [List.getElem?_take_of_lt hjn, List.getElem?_drop] at hj
  exact rd_sl ok ha h hx hj w S
theorem o_storeRowN {α : Type} {e : Enc α} {t : TypeId} {x y : Operand} {a : Option Addr} {ad : Addr} {i o n c : Nat} {xs : List α} {x0 : α} {z : Value} {b : Nat} {vs : List Value} (ok : EncOk P e) (ea : a = some ad) (hx : opv l x = some (.pointer (some (ad.add (i * e.sz + o))))) (hy : opv l y = some (.agg vs.toArray)) (hi : TI P t z n b) (hn : vs.length = n)
    (x1 : α) (hg : xs[i]? = some x0) (ho : o + vs.length ≤ e.sz) (hc : e.cells x1 = (e.cells x0).take o ++ vs ++ (e.cells x0).drop (o + vs.length)) (h : WL P ops Q rest N l W (row e.T e.sz a (xs.set i x1).length c (flat e (xs.set i x1)) :: L)) : WL P ops Q (⟨none, .store t x y, ty, pos, af, none⟩ :: rest) N l W (row e.T e.sz a xs.length c (flat e xs) :: L) := fun b' w K S => by
  have hlt := (List.getElem?_eq_some_iff.1 hg).1
  obtain ⟨hl, ⟨h1, h2, _⟩ | ⟨g, cur, h1, h2, h3, h4, h5, S'⟩⟩ := S.own_cases
  · omega
  · rw [h1] at ea
    cases ea
    rw [Addr.add_mk, Nat.zero_add] at hx
    have hbig : i * e.sz + e.sz ≤ xs.length * e.sz := by
      have : (i + 1) * e.sz ≤ xs.length * e.sz := Nat.mul_le_mul_right _ hlt
      rwa [Nat.add_mul, Nat.one_mul] at this
    have hcs : xs.length * e.sz ≤ c * e.sz := Nat.mul_le_mul_right _ h2
    have hv : ∀ v ∈ vs, v.oneCell' = true := fun v hv => ok.one x1 v (by rw [hc]; simp [hv])
    have h6 := run_storeCells_at P g (i * e.sz + o) e.T vs 0 cur w S'.read.2 (by simp; omega) hv
    simp only [Nat.add_zero] at h6
    have hT : ((cur.toList.take (i * e.sz + o) ++ vs ++ cur.toList.drop (i * e.sz + o + vs.length)).toArray).toList.take (xs.length * e.sz) = flat e (xs.set i x1) := by
      have h7 := take_mid (A := cur.toList) (vs := vs) (j := i * e.sz + o) (n := xs.length * e.sz) (by omega) (by have hcl : cur.toList.length = cur.size := Array.length_toList; omega)
      rw [h5, flat_setN ok hg ho hc] at h7
      rw [List.toList_toArray]
      exact h7
    refine wpListIn_plain rfl fun k hk => wpIn_of_run (n := .skip) (w' := w.setRow g (cur.toList.take (i * e.sz + o) ++ vs ++ cur.toList.drop (i * e.sz + o + vs.length)).toArray) ?_ (by simp) ?_
    · rw [← hn] at hi
      have hi' : TI P t z vs.toArray.size b := by rw [List.size_toArray]; exact hi
      simp [execOp, K.eval hx, K.eval hy, Instr.storeAt, Instr.sureAddr, storeVar, run_sizeOf' hi, Value.cells, h6]
    · subst h1
      have S2 : Sat W (w.setRow g (cur.toList.take (i * e.sz + o) ++ vs ++ cur.toList.drop (i * e.sz + o + vs.length)).toArray) (blk g (.cells (cur.toList.take (i * e.sz + o) ++ vs ++ cur.toList.drop (i * e.sz + o + vs.length)).toArray e.T (0, 0)) :: L) :=
        S'.turn rfl rfl rfl (by simp [World.setRow]) (setRow_heap w g cur _ e.T _ S'.read.2) (fun q hq => setRow_other w g q _ hq)
      have S3 := S2.own_mk (sz := e.sz) (c := c) (n := (xs.set i x1).length) (cs := flat e (xs.set i x1)) (by rw [List.length_set]; exact h2) h3 (by rw [List.size_toArray]; simp only [List.length_append, List.length_take, List.length_drop, Array.length_toList]; omega) (by rw [List.length_set]; exact hT)
      exact hk _ _ (h _ _ (K.none _) S3)
theorem rs_4 {fn : Func} {x y z q : ResultVar} {v u t s : Value} (h : fn.results = #[x, y, z, q]) (h1 : RS P N l W L x v) (h2 : RS P N l W L y u) (h3 : RS P N l W L z t) (h4 : RS P N l W L q s) : ∀ a w, Know a N l → Sat W w L → (results fn a.tmps).run P w = .ok (.tuple #[v, u, t, s]) w := fun a w K S => by
  have e1 := h1 a w K S
  have e2 := h2 a w K S
  have e3 := h3 a w K S
  have e4 := h4 a w K S
  show (do let vs ← fn.results.mapM (resf a.tmps); pure (if h : vs.size = 1 then vs[0] else .tuple vs) : Sem Value).run P w = _
  rw [h]
  simp [Sem.run_bind, e1, e2, e3, e4]
end
end Go.Proofs.Ytlblipkcbmcfkaa
