/- copy, append of zeros, slices beyond their length: what slices.Insert and slices.Delete are made of. -/
import Derived.Test.YtlblipkcbmcfkaaMany
import Derived.Lib.AppendZerosOnto
import Derived.Lib.Overlaps
import Derived.Laws.CopyRow
import Derived.Laws.Externs
set_option linter.unusedVariables false
set_option linter.unusedSimpArgs false
namespace Go.Proofs.Ytlblipkcbmcfkaa
open Go.RowKit
/-- copy at elements of whatever size: all is read ahead of what is written. -/
theorem run_copy_rowN {P : Program} (w : World) (dT sT ty elem : TypeId) (g o dLen dCap : Nat) (a : Addr) (sLen sCap k sz b : Nat) (z : Value) (cur : Array Value) (t : TypeId) (cs : List Value)
    (hu : P.underlying dT = some (.slice elem)) (hs : TI P elem z sz b) (hg : w.heap[g]? = some (.cells cur t (0, 0))) (hk : k = Nat.min sLen dLen) (hn : cs.length = k * sz)
    (hsrc : ∀ j v, cs[j]? = some v → w.cell? (a.add j) = some v) (hfit : o + cs.length ≤ cur.size) (h1 : ∀ v ∈ cs, v.oneCell' = true) :
    (Builtin.copy_ #[dT, sT] ty #[.slice (some ⟨g, o, none⟩) dLen dCap, .slice (some a) sLen sCap]).run P w =
      .ok (goInt k) (w.setRow g (cur.toList.take o ++ cs ++ cur.toList.drop (o + cs.length)).toArray) := by
  have hl := run_loadCells_list (P := P) w a cs hsrc
  have hst := run_storeCells_at P g o t cs 0 cur w hg (by simpa using hfit) h1
  obtain ⟨i, hi, hz, hsz, hby⟩ := hs.get
  simp [Builtin.copy_, run_underlying hu, Builtin.lenOf, Builtin.firstCells, sizeOf, typeInfo, hi, hsz, ← hk, ← hn, hl, hst]
theorem zeroCells_list (z : Array Value) : ∀ k, (Builtin.zeroCells z k).toList = (List.replicate k z.toList).flatten
  | 0 => by simp [Builtin.zeroCells]
  | k + 1 => by
    have ih := zeroCells_list z k
    simp only [Builtin.zeroCells, Array.toList_map, Array.toList_range] at ih ⊢
    rw [show (k + 1) * z.size = k * z.size + z.size by rw [Nat.add_mul]; omega, List.range_add, List.map_append, ih, List.map_map, List.replicate_succ', List.flatten_append]
    congr 1
    simp only [List.flatten_cons, List.flatten_nil, List.append_nil]
    apply List.ext_getElem
    · simp
    · intro i h1 h2
      simp only [List.length_map, List.length_range] at h1
      simp only [List.getElem_map, List.getElem_range, Function.comp, Array.getElem_toList]
      rw [Nat.mul_comm k, Nat.mul_add_mod, Nat.mod_eq_of_lt h1]
      exact getElem!_pos z i h1
theorem flat_replicate {α : Type} {e : Enc α} {z0 : α} (h : e.cells z0 = e.z.cells.toList) (k : Nat) : flat e (List.replicate k z0) = (Builtin.zeroCells e.z.cells k).toList := by
  rw [zeroCells_list, ← h]
  unfold flat
  induction k with
  | zero => rfl
  | succ k ih => rw [List.replicate_succ, List.flatMap_cons, ih, List.replicate_succ, List.flatten_cons]
section
variable {P : Program} {N : FN} {l : Fr} {W : World} {L : List Res} {Q : Exit → Act → World → Prop} {ops : Array Oper} {rest : List Oper} {d : Nat} {ty : TypeId} {pos : String} {af : Array Edge}
/-- Cells that can be read from an address on. -/
def RdO (W : World) (L : List Res) (b : Option Addr) (ds : List Value) : Prop := ∀ w, Sat W w L → ∃ ad, b = some ad ∧ ∀ j v, ds[j]? = some v → w.cell? (ad.add j) = some v
theorem rdO_of {α : Type} {e : Enc α} {a : Option Addr} {xs : List α} (h : RdS W L e a xs) (hn : xs ≠ []) : RdO W L a (flat e xs) := fun w S => h w S hn
theorem cutA_some {g c lo sz : Nat} (h : lo < c) : cutA (some ⟨g, 0, none⟩) c lo sz = some ⟨g, lo * sz, none⟩ := by
  unfold cutA
  rw [if_neg (by omega)]
  simp [Addr.add_mk]
theorem rdO_row {T sz n c lo m : Nat} {a : Option Addr} {cs : List Value} (i : Nat) (h : L[i]? = some (row T sz a n c cs)) (hlo : lo < c) (hn : 0 < n) : RdO W L (cutA a c lo sz) ((cs.drop (lo * sz)).take m) := fun w S => by
  obtain ⟨L', S'⟩ := mem_front (List.mem_of_getElem? h) S
  obtain ⟨hl, ⟨h1, h2, h3, S2⟩ | ⟨g, cur, rfl, h2, h3, h4, h5, S2⟩⟩ := S'.own_cases
  · omega
  · refine ⟨_, cutA_some hlo, fun j v hj => ?_⟩
    rw [Addr.add_mk, S2.cell]
    rw [List.getElem?_take] at hj
    split at hj
    · rw [List.getElem?_drop, ← h5, List.getElem?_take] at hj
      split at hj
      · simpa using hj
      · cases hj
    · cases hj
theorem cutA_0 (a : Option Addr) (c sz : Nat) : cutA a c 0 sz = a := by
  unfold cutA
  split
  · rfl
  · cases a with
    | none => rfl
    | some p => simp [Addr.add]
/-- copy(a[lo:], src): k elements. -/
theorem o_copy {dT sT : TypeId} {x y : Operand} {T sz n c lo dl dc k m sc bb : Nat} {z : Value} {a b : Option Addr} {cs ds : List Value} (hd : Nat.ble (d + 1) N = true) (hx : opv l x = some (.slice (cutA a c lo sz) dl dc)) (hy : opv l y = some (.slice b m sc)) (ht : P.underlying dT = some (.slice T)) (hi : TI P T z sz bb)
    (hk : k = Nat.min m dl) (h0 : 0 < k) (hds : ds.length = k * sz) (hr : RdO W (row T sz a n c cs :: L) b ds) (hfit : lo + k ≤ n) (h1 : ∀ v ∈ ds, v.oneCell' = true)
    (h : WL P ops Q rest N ((d, .int .i64 (k : Int)) :: l) W (row T sz a n c (cs.take (lo * sz) ++ ds ++ cs.drop (lo * sz + k * sz)) :: L)) :
    WL P ops Q (⟨some d, .call { callee := .builtin .copy, args := #[x, y], argTypes := #[dT, sT] }, ty, pos, af, none⟩ :: rest) N l W (row T sz a n c cs :: L) :=
  o_runx (α := Unit) hd (vv := fun _ => .int .i64 (k : Int)) (LL := fun _ => row T sz a n c (cs.take (lo * sz) ++ ds ++ cs.drop (lo * sz + k * sz)) :: L) (fun ac w K S => by
    obtain ⟨hl, ⟨h1, h2, h3, S2⟩ | ⟨g, cur, rfl, h2, h3, h4, h5, S2⟩⟩ := S.own_cases
    · omega
    · obtain ⟨ad, rfl, hc⟩ := hr w S
      have hks : lo * sz + k * sz ≤ n * sz := by rw [← Nat.add_mul]; exact Nat.mul_le_mul_right _ hfit
      have hcs := Nat.le_trans (Nat.mul_le_mul_right sz h2) h4
      have hrun := run_copy_rowN (P := P) w dT sT ty T g (lo * sz) dl dc ad m sc k sz bb z cur T ds ht hi S2.read.2 hk hds hc (by omega) h1
      refine ⟨(), w.setRow g (cur.toList.take (lo * sz) ++ ds ++ cur.toList.drop (lo * sz + ds.length)).toArray, ?_, ?_⟩
      · have hx' : opv l x = some (.slice (some ⟨g, lo * sz, none⟩) dl dc) := by rw [hx, cutA_some (by omega)]
        simp only [execOp, resolve, invoke, builtin, List.map_toArray, List.map_cons, List.map_nil, K.eval hx', K.eval hy, Sem.run_bind, Sem.run_pure, Result.andThen_ok, hrun]
        rfl
      · have S3 : Sat W (w.setRow g (cur.toList.take (lo * sz) ++ ds ++ cur.toList.drop (lo * sz + ds.length)).toArray) (blk g (.cells (cur.toList.take (lo * sz) ++ ds ++ cur.toList.drop (lo * sz + ds.length)).toArray T (0, 0)) :: L) :=
          S2.turn rfl rfl rfl (by simp [World.setRow]) (setRow_heap w g cur _ T _ S2.read.2) (fun q hq => setRow_other w g q _ hq)
        refine S3.own_mk h2 h3 ?_ ?_
        · rw [List.size_toArray]; simp only [List.length_append, List.length_take, List.length_drop, Array.length_toList]; omega
        · rw [List.toList_toArray, ← h5, hds, List.take_take, Nat.min_eq_left (by omega), List.drop_take]
          rw [List.take_append, List.take_of_length_le (by simp only [List.length_append, List.length_take, Array.length_toList]; omega)]
          congr 2
          simp only [List.length_append, List.length_take, Array.length_toList]; omega) fun _ => h
/-- A row's slice beyond its length, within what it can hold. -/
theorem Sat.row_more {w : World} {T sz n c k : Nat} {a : Option Addr} {cs : List Value} (S : Sat W w (row T sz a n c cs :: L)) (hk : n + k ≤ c) (hn : 0 < n) : ∃ js, js.length = k * sz ∧ Sat W w (row T sz a (n + k) c (cs ++ js) :: L) := by
  obtain ⟨hl, ⟨h1, h2, h3, S2⟩ | ⟨g, cur, rfl, h2, h3, h4, h5, S2⟩⟩ := S.own_cases
  · omega
  · have hm := Nat.le_trans (Nat.mul_le_mul_right sz hk) h4
    rw [Nat.add_mul] at hm
    refine ⟨(cur.toList.drop (n * sz)).take (k * sz), by simp only [List.length_take, List.length_drop, Array.length_toList]; omega, S2.own_mk hk h3 h4 ?_⟩
    rw [Nat.add_mul, List.take_add, h5]
theorem c_more {cd : Code} {T sz n c : Nat} (k : Nat) {a : Option Addr} {cs : List Value} (hk : n + k ≤ c) (hn : 0 < n) (h : ∀ js, js.length = k * sz → WC P cd Q N l W (row T sz a (n + k) c (cs ++ js) :: L)) : WC P cd Q N l W (row T sz a n c cs :: L) := fun a' w K S =>
  let ⟨js, hj, S'⟩ := S.row_more hk hn; h js hj a' w K S'
/-- A row that is cut: x[:n':c']. -/
theorem Sat.row_cut {w : World} {T sz n c n' c' : Nat} {a : Option Addr} {cs : List Value} (S : Sat W w (row T sz a n c cs :: L)) (h1 : n' ≤ n) (h2 : n' ≤ c') (h3 : c' ≤ c) (h0 : 0 < c') : Sat W w (row T sz a n' c' (cs.take (n' * sz)) :: L) := by
  obtain ⟨hl, ⟨g1, g2, g3, S2⟩ | ⟨g, cur, rfl, g2, g3, g4, g5, S2⟩⟩ := S.own_cases
  · omega
  · refine S2.own_mk h2 (by omega) (Nat.le_trans (Nat.mul_le_mul_right sz h3) g4) ?_
    rw [← g5, List.take_take, Nat.min_eq_left (Nat.mul_le_mul_right sz h1)]
/-- overlaps of two slices in two rows. -/
theorem o_overlaps {f : FuncId} {x y : Operand} {tys : Array TypeId} {fn : Func} {tS tR T sz n c n2 c2 bb la ca lb cb lo : Nat} {z : Value} {a a2 : Option Addr} {cs cs2 : List Value} (hd : Nat.ble (d + 1) N = true) (hx : opv l x = some (.slice a la ca)) (hy : opv l y = some (.slice (cutA a2 c2 lo sz) lb cb))
    (hf : P.funcs[f]? = some fn) (hname : (fn.name == "runtime.NumGoroutine") = false) (hb : fn.body.isNone = true) (hn : Extern.findNext fn = none) (he : Extern.find fn = some (Extern.SlicesOverlaps.overlaps #[tS, tS] #[tR])) (ht : P.underlying tS = some (.slice T)) (hi : TI P T z sz bb)
    (hsz : 0 < sz) (h1 : 0 < n) (h2 : lo < n2) (h : WL P ops Q rest N ((d, .bool false) :: l) W (row T sz a n c cs :: row T sz a2 n2 c2 cs2 :: L)) :
    WL P ops Q (⟨some d, .call { callee := .value (.func f), args := #[x, y], argTypes := tys }, ty, pos, af, none⟩ :: rest) N l W (row T sz a n c cs :: row T sz a2 n2 c2 cs2 :: L) :=
  o_val hd (fun ac w K S => by
    obtain ⟨hl, ⟨g1, g2, g3, S2⟩ | ⟨g, cur, rfl, g2, g3, g4, g5, S2⟩⟩ := S.own_cases
    · omega
    · obtain ⟨hl', ⟨k1, k2, k3, S3⟩ | ⟨g', cur', rfl, k2, k3, k4, k5, S3⟩⟩ := (S2.perm (List.Perm.swap _ _ _)).own_cases
      · omega
      · have hr1 := S3.read.2
        have S4 := S3.perm (List.Perm.swap _ _ _)
        have hr2 := S4.read.2
        have hne : g ≠ g' := fun e => by
          subst e
          obtain ⟨y, ⟨x1, b1, hdj, rfl, hx1, x2, b2, hdj2, rfl, hx2, hb2⟩, hy⟩ := S4.own
          rcases hdj g with h9 | h9
          · rw [hx1] at h9; simp at h9
          · simp only [PH.un, Option.or_eq_none_iff] at h9
            rw [hx2] at h9; simp at h9
        have hy' : opv l y = some (.slice (some ⟨g', lo * sz, none⟩) lb cb) := by rw [hy, cutA_some (by omega)]
        have hsh : w.shape? g = some (T, cur.size) := by unfold World.shape?; rw [hr2]
        have hsh' : w.shape? g' = some (T, cur'.size) := by unfold World.shape?; rw [hr1]
        have hpos : 0 < c2 * sz := Nat.mul_pos (by omega) hsz
        have hov := Lib.run_overlaps_apart (P := P) w tS tR T ht sz (run_sizeOf' hi) ⟨g, 0, none⟩ ⟨g', lo * sz, none⟩ la ca lb cb hne T T cur.size cur'.size hsh hsh' (by omega) (S4.frozen 0) (S4.frozen _)
        have hc := run_callFunc_extern (P := P) hf hname hb hn he #[.slice (some ⟨g, 0, none⟩) la ca, .slice (some ⟨g', lo * sz, none⟩) lb cb] w
        rw [hov] at hc
        have hfx : ac.eval (.func f) = .func (.func f) #[] #[] := rfl
        simp only [execOp, resolve, K.eval hx, K.eval hy', hfx, List.map_toArray, List.map_cons, List.map_nil, Deferred.ofValue, Sem.run_bind, Sem.run_pure, Result.andThen_ok, invoke]
        simpa using hc) h
/-- append(xs[:i], make([]T, k)...) that does not fit: a new row; the old one stays. -/
theorem o_appendZ {α : Type} {e : Enc α} {t tn : TypeId} {x y : Operand} {a b : Option Addr} {c i k n : Nat} {xs : List α} {kq kn : IntKind} (ok : EncOk P e) (hn : n = i + k) (hd : Nat.ble (d + 1) N = true) (ea : cutA a c 0 e.sz = b) (hx : opv l x = some (.slice b i c)) (hy : opv l y = some (.int kq (k : Int))) (ht : P.underlying t = some (.slice e.T)) (htn : P.underlying tn = some (.int kn))
    (hi : i ≤ xs.length) (hc : c < i + k) (h0 : 0 < k) (hb : (i + k) * e.bytes ≤ 140737488355328) (hm : i + k ≤ 140737488355328)
    (h : ∀ a' c' zs, zs.length = k * e.sz → WL P ops Q rest N ((d, .slice a' n c') :: l) W (row e.T e.sz a' n c' (flat e (xs.take i) ++ zs) :: row e.T e.sz a xs.length c (flat e xs) :: L)) :
    WL P ops Q (⟨some d, .call { callee := .builtin .append, args := #[x, y], argTypes := #[t, tn] }, ty, pos, af, none⟩ :: rest) N l W (row e.T e.sz a xs.length c (flat e xs) :: L) :=
  o_runx (α := Option Addr × Nat) hd (vv := fun p => .slice p.1 n p.2) (LL := fun p => row e.T e.sz p.1 n p.2 (flat e (xs.take i) ++ (Builtin.zeroCells e.z.cells k).toList) :: row e.T e.sz a xs.length c (flat e xs) :: L) (fun ac w K S => by
    obtain ⟨ti, hti, hz, hs, hby⟩ := ok.ti.get
    have hold : (Builtin.firstCells ti.size i (.slice b i c)).run P w.drew = .ok (flat e (xs.take i)).toArray w.drew := by
      obtain ⟨hl, ⟨g1, g2, g3, S2⟩ | ⟨g, cur, rfl, g2, g3, g4, g5, S2⟩⟩ := S.own_cases
      · have hxs : xs = [] := List.eq_nil_of_length_eq_zero g2
        subst hxs
        rw [g1, cutA_none] at ea
        subst ea
        have : i = 0 := by simpa using hi
        subst this
        simp [Builtin.firstCells, flat]
      · rw [cutA_zero] at ea
        subst ea
        refine run_firstCells_some (P := P) w.drew ti.size i ⟨g, 0, none⟩ i c _ (by rw [flat_length ok, List.length_take, hs]; congr 1; omega) (fun j v hj => ?_)
        rw [Addr.add_mk, Nat.zero_add, S2.drew.cell]
        rw [flat_take ok, ← g5, List.take_take, List.getElem?_take] at hj
        split at hj
        · simpa using hj
        · cases hj
    have hfit := growslice_fits hc (by rw [hby]; exact hb : (i + k) * ti.bytes ≤ 140737488355328)
    have hkb : k * ti.bytes ≤ 281474976710656 := by
      have := Nat.mul_le_mul_right ti.bytes (show k ≤ i + k by omega)
      rw [hby] at this ⊢; omega
    have hrun := Lib.run_append_grow_zeros (P := P) w t tn ty e.T ti e.z kq kn ht htn hti hz b i c (flat e (xs.take i)) hold k h0 (by rw [hs]; exact ok.pos) hc (by omega) hkb hfit
    obtain ⟨C, hC⟩ : ∃ C, C = (flat e (xs.take i)).toArray ++ Builtin.zeroCells e.z.cells k ++ Builtin.zeroCells e.z.cells (grownCap w (i + k) c e.T - (i + k)) := ⟨_, rfl⟩
    rw [← hC] at hrun
    have hge := grownCap_ge w (i + k) c e.T
    have hcm := grownCap_le_maxLen w (i + k) c e.T (by simp only [maxLen]; omega)
    refine ⟨(some ⟨w.heap.size, 0, none⟩, grownCap w (i + k) c e.T), w.drew.alloc (.cells C e.T), ?_, ?_⟩
    · rw [hn]
      simp only [execOp, resolve, invoke, builtin, List.map_toArray, List.map_cons, List.map_nil, K.eval hx, K.eval hy, Sem.run_bind, Sem.run_pure, Result.andThen_ok, hrun]
    · rw [hn]
      have S1 := S.drew.alloc (.cells C e.T)
      refine S1.own_mk hge hcm ?_ ?_
      · rw [hC]
        simp only [Array.size_append, List.size_toArray, size_zeroCells, ok.zs, flat_length ok, List.length_take, Nat.min_eq_left hi, ← Nat.add_mul]
        exact Nat.mul_le_mul_right _ (by omega)
      · rw [hC]
        simp only [Array.toList_append, List.toList_toArray]
        refine List.take_left' ?_
        simp only [List.length_append, flat_length ok, Array.length_toList, size_zeroCells, ok.zs, List.length_take, Nat.min_eq_left hi, ← Nat.add_mul]) fun p => h p.1 p.2 _ (by rw [Array.length_toList, size_zeroCells, ok.zs])
/-- What is put in between, by cells. -/
theorem ins_raw {α : Type} {e : Enc α} (ok : EncOk P e) {xs : List α} {x : α} {i : Nat} {js ds : List Value} (hi : i < xs.length) (hj : js.length = 1 * e.sz) (hds : ds = ((flat e xs ++ js).drop (i * e.sz)).take ((xs.length - i) * e.sz)) :
    (((flat e xs ++ js).take ((i + 1) * e.sz) ++ ds ++ (flat e xs ++ js).drop ((i + 1) * e.sz + (xs.length - i) * e.sz)).take (i * e.sz) ++ flat e [x] ++ ((flat e xs ++ js).take ((i + 1) * e.sz) ++ ds ++ (flat e xs ++ js).drop ((i + 1) * e.sz + (xs.length - i) * e.sz)).drop (i * e.sz + 1 * e.sz)) = flat e (xs.take i ++ x :: xs.drop i) := by
  have hl := flat_length ok xs
  have h1 : i * e.sz ≤ xs.length * e.sz := Nat.mul_le_mul_right _ (by omega)
  have h2 : (i + 1) * e.sz = i * e.sz + e.sz := by rw [Nat.add_mul]; omega
  have h3 : (xs.length - i) * e.sz = xs.length * e.sz - i * e.sz := Nat.sub_mul _ _ _
  have h4 : (i + 1) * e.sz ≤ xs.length * e.sz := Nat.mul_le_mul_right _ (by omega)
  have hd : ds = flat e (xs.drop i) := by
    rw [hds, List.drop_append_of_le_length (by omega), List.take_append_of_le_length (by rw [List.length_drop]; omega), List.take_of_length_le (by rw [List.length_drop]; omega), flat_drop ok]
  have hz : (flat e xs ++ js).drop ((i + 1) * e.sz + (xs.length - i) * e.sz) = [] := List.drop_eq_nil_of_le (by rw [List.length_append]; omega)
  have ht : (flat e xs ++ js).take ((i + 1) * e.sz) = flat e (xs.take (i + 1)) := by rw [List.take_append_of_le_length (by omega), flat_take ok]
  have hlt : (flat e (xs.take (i + 1))).length = (i + 1) * e.sz := by rw [flat_length ok, List.length_take]; congr 1; omega
  rw [hz, List.append_nil, ht, hd]
  rw [List.take_append_of_le_length (by omega), ← flat_take ok, List.take_take, Nat.min_eq_left (by omega)]
  rw [List.drop_append, hlt, List.drop_of_length_le (by omega), show i * e.sz + 1 * e.sz - (i + 1) * e.sz = 0 by omega, List.nil_append, List.drop_zero]
  rw [show x :: xs.drop i = [x] ++ xs.drop i from rfl, flat_append, flat_append, List.append_assoc]
/-- The same in a new row: the head, room, then what is put in, then what stood behind it. -/
theorem ins_raw2 {α : Type} {e : Enc α} (ok : EncOk P e) {xs : List α} {x : α} {i : Nat} {zs : List Value} (hi : i < xs.length) (hz : zs.length = (xs.length + 1 - i) * e.sz) :
    (((flat e (xs.take i) ++ zs).take (i * e.sz) ++ flat e [x] ++ (flat e (xs.take i) ++ zs).drop (i * e.sz + 1 * e.sz)).take ((i + 1) * e.sz) ++ ((flat e xs).drop (i * e.sz)).take ((xs.length - i) * e.sz) ++
      ((flat e (xs.take i) ++ zs).take (i * e.sz) ++ flat e [x] ++ (flat e (xs.take i) ++ zs).drop (i * e.sz + 1 * e.sz)).drop ((i + 1) * e.sz + (xs.length - i) * e.sz)) = flat e (xs.take i ++ x :: xs.drop i) := by
  have hl : (flat e (xs.take i)).length = i * e.sz := by rw [flat_length ok, List.length_take]; congr 1; omega
  have e1 : (flat e (xs.take i) ++ zs).take (i * e.sz) = flat e (xs.take i) := List.take_left' hl
  have hlx : (flat e (xs.take i) ++ flat e [x]).length = (i + 1) * e.sz := by rw [← flat_append, flat_length ok, List.length_append, List.length_take]; congr 1; simp; omega
  have e2 : ((flat e (xs.take i) ++ flat e [x]) ++ (flat e (xs.take i) ++ zs).drop (i * e.sz + 1 * e.sz)).take ((i + 1) * e.sz) = flat e (xs.take i) ++ flat e [x] := List.take_left' hlx
  have e3 : ((flat e xs).drop (i * e.sz)).take ((xs.length - i) * e.sz) = flat e (xs.drop i) := by
    rw [← flat_drop ok, ← flat_take ok, List.take_of_length_le (by rw [List.length_drop]; omega)]
  have h5 : (xs.length + 1 - i) * e.sz = (xs.length - i) * e.sz + e.sz := by rw [show xs.length + 1 - i = (xs.length - i) + 1 by omega, Nat.add_mul]; omega
  have e4 : ((flat e (xs.take i) ++ flat e [x]) ++ (flat e (xs.take i) ++ zs).drop (i * e.sz + 1 * e.sz)).drop ((i + 1) * e.sz + (xs.length - i) * e.sz) = [] := List.drop_eq_nil_of_le (by rw [List.length_append, hlx, List.length_drop, List.length_append, hl, hz]; omega)
  rw [e1, e2, e3, e4, List.append_nil, show xs.take i ++ x :: xs.drop i = xs.take i ++ ([x] ++ xs.drop i) from rfl, flat_append, flat_append, List.append_assoc]
section
variable {P : Program} {N : FN} {l : Fr} {W : World} {L : List Res} {Q : Exit → Act → World → Prop} {ops : Array Oper} {rest : List Oper} {d : Nat} {ty : TypeId} {pos : String} {af : Array Edge}
theorem o_cap {t e : TypeId} {x : Operand} {p : Option Addr} {n c : Nat} (hd : Nat.ble (d + 1) N = true) (hx : opv l x = some (.slice p n c)) (ht : P.underlying t = some (.slice e)) (h : WL P ops Q rest N ((d, .int .i64 (c : Int)) :: l) W L) :
    WL P ops Q (⟨some d, .call { callee := .builtin .cap, args := #[x], argTypes := #[t] }, ty, pos, af, none⟩ :: rest) N l W L :=
  o_val hd (fun a w K _ => by simp [execOp, resolve, invoke, builtin, K.eval hx, Builtin.cap_, run_underlying ht, goInt]) h
theorem r_four {fn : Func} {t u x y : Nat} {v1 v2 v3 v4 : Value} (h : fn.results = #[.tmp t, .tmp u, .tmp x, .tmp y]) (h1 : lk l t = some v1) (h2 : lk l u = some v2) (h3 : lk l x = some v3) (h4 : lk l y = some v4) : ∀ a w, Know a N l → Sat W w L → (results fn a.tmps).run P w = .ok (.tuple #[v1, v2, v3, v4]) w := fun a w K _ => by
  have e1 := K.val t v1 h1
  have e2 := K.val u v2 h2
  have e3 := K.val x v3 h3
  have e4 := K.val y v4 h4
  simp only [Array.getD_eq_getD_getElem?] at e1 e2 e3 e4
  simp [results, h, e1, e2, e3, e4]
theorem row_capL {T sz n c : Nat} {a : Option Addr} {cs : List Value} {w : World} (S : Sat W w (row T sz a n c cs :: L)) : n ≤ c ∧ c ≤ maxLen := by
  obtain ⟨hl, ⟨h1, h2, h3, S2⟩ | ⟨g, cur, rfl, h2, h3, h4, h5, S2⟩⟩ := S.own_cases
  · subst h2; subst h3; simp [maxLen]
  · exact ⟨h2, h3⟩
theorem l_rowcap {T sz n c : Nat} {a : Option Addr} {cs : List Value} (h : n ≤ c ∧ c ≤ maxLen → WL P ops Q rest N l W (row T sz a n c cs :: L)) : WL P ops Q rest N l W (row T sz a n c cs :: L) := fun a' w K S => h (row_capL S) a' w K S
theorem c_rowcap {cd : Code} {T sz n c : Nat} {a : Option Addr} {cs : List Value} (h : n ≤ c ∧ c ≤ maxLen → WC P cd Q N l W (row T sz a n c cs :: L)) : WC P cd Q N l W (row T sz a n c cs :: L) := fun a' w K S => h (row_capL S) a' w K S
end
end
end Go.Proofs.Ytlblipkcbmcfkaa
