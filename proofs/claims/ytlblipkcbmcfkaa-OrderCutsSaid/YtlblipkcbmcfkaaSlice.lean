/- Slices that are made: literals, makes, the nil slice; appends are in Mem. -/
import Derived.Test.YtlblipkcbmcfkaaMore
set_option linter.unusedVariables false
set_option linter.unusedSimpArgs false
namespace Go.Proofs.Ytlblipkcbmcfkaa
open Go.RowKit

/-- The values of a literal's parts, each at its place. -/
def oppsFrom (l : Fr) : Nat → List (Nat × Operand) → Option (List Value)
  | _, [] => some []
  | i, (j, x) :: ps => if i = j then match opv l x, oppsFrom l (i + 1) ps with
      | some v, some vs => some (v :: vs)
      | _, _ => none
    else none
theorem opps_map {a : Act} {N : FN} {l : Fr} (K : Know a N l) : ∀ {ps : List (Nat × Operand)} {i : Nat} {vs : List Value}, oppsFrom l i ps = some vs → ps.map (fun p => (p.1, a.eval p.2)) = (vs.zipIdx i).map fun p => (p.2, p.1)
  | [], i, vs, h => by simp only [oppsFrom, Option.some.injEq] at h; subst h; rfl
  | (j, x) :: ps, i, vs, h => by
    simp only [oppsFrom] at h
    split at h
    · rename_i e
      subst e
      split at h
      · rename_i v vs' h1 h2
        simp only [Option.some.injEq] at h
        subst h
        simp [K.eval h1, opps_map K h2]
      · cases h
    · cases h
theorem setSeg (off : Nat) : ∀ (vs : List Value) (i : Nat) (cs : Array Value), off + i + vs.length ≤ cs.size →
    ((vs.zipIdx i).foldl (fun cs (p : Value × Nat) => cs.setIfInBounds (off + p.2) p.1) cs).toList = cs.toList.take (off + i) ++ vs ++ cs.toList.drop (off + i + vs.length)
  | [], i, cs, h => by simp
  | v :: vs, i, cs, h => by
    simp only [List.length_cons] at h
    simp only [List.zipIdx_cons, List.foldl_cons]
    rw [setSeg off vs (i + 1) _ (by simp; omega)]
    simp only [Array.toList_setIfInBounds, List.length_cons]
    have hlt : off + i < cs.toList.length := by simp; omega
    rw [List.take_set, List.drop_set_of_lt (by omega)]
    rw [show off + (i + 1) = off + i + 1 by omega, List.take_add_one, List.getElem?_eq_getElem hlt]
    simp only [Option.toList_some]
    rw [List.set_append_right _ _ (by rw [List.length_take]; omega)]
    rw [List.length_take, Nat.min_eq_left (by omega), Nat.sub_self]
    simp [show off + i + 1 + vs.length = off + i + (vs.length + 1) by omega]
theorem fillSeq (s : Nat) : ∀ (vs : List Value) (i : Nat) (cs : Array Value), cs.size = (i + vs.length) * s → (∀ v ∈ vs, v.cells.size = s) →
    Instr.fill (fun i => some (i * s, s)) cs ((vs.zipIdx i).map fun p => (p.2, p.1)) = some (cs.toList.take (i * s) ++ vs.flatMap (fun v => v.cells.toList)).toArray
  | [], i, cs, h, _ => by
    simp only [List.length_nil, Nat.add_zero] at h
    have : cs.toList.take (i * s) = cs.toList := List.take_of_length_le (by simp [h])
    simp [Instr.fill, this]
  | v :: vs, i, cs, h, hv => by
    have hs := hv v (by simp)
    simp only [List.length_cons] at h
    have hle : i * s + s ≤ cs.size := by
      rw [h, show i + (vs.length + 1) = (i + 1) + vs.length by omega, Nat.add_mul, Nat.add_mul]; omega
    simp only [List.zipIdx_cons, List.map_cons, Instr.fill]
    rw [if_neg (by simp [hs]; omega)]
    have hseg := setSeg (i * s) v.cells.toList 0 cs (by simp [hs]; omega)
    have hz : (v.cells.zipIdx.foldl (fun cs (p : Value × Nat) => cs.setIfInBounds (i * s + p.2) p.1) cs) = (cs.toList.take (i * s) ++ v.cells.toList ++ cs.toList.drop (i * s + s)).toArray := by
      apply Array.toList_inj.1
      rw [← Array.foldl_toList, Array.toList_zipIdx]
      simpa [hs] using hseg
    rw [hz, fillSeq s vs (i + 1) _ _ (fun u hu => hv u (by simp [hu]))]
    · congr 1
      rw [Nat.add_mul, Nat.one_mul]
      have hl : (cs.toList.take (i * s) ++ v.cells.toList).length = i * s + s := by simp [hs]; omega
      simp only [List.flatMap_cons]
      rw [← List.append_assoc]
      congr 1
      rw [← hl, List.take_left]
    · have e1 : (i + (vs.length + 1)) * s = i * s + vs.length * s + s := by rw [Nat.add_mul, Nat.add_mul]; omega
      have e2 : (i + 1 + vs.length) * s = i * s + vs.length * s + s := by rw [Nat.add_mul, Nat.add_mul]; omega
      rw [e1] at h
      simp [hs, e2]
      omega
section
variable {P : Program} {N : FN} {l : Fr} {W : World} {L L0 : List Res} {Q : Exit → Act → World → Prop} {ops : Array Oper} {rest : List Oper}
variable {d : Nat} {ty : TypeId} {pos : String} {af : Array Edge}
theorem o_lit {α : Type} {e : Enc α} {t n : Nat} {parts : Array (Nat × Operand)} {vs : List Value} (ok : EncOk P e) (hd : Nat.ble (d + 1) N = true) (ht : P.underlying t = some (.slice e.T)) (hp : oppsFrom l 0 parts.toList = some vs) (hn : vs.length = n) (hb : Nat.ble (n * e.sz) 16777216 = true)
    (hs : ∀ v ∈ vs, v.cells.size = e.sz) (xs : List α) (hx : vs.flatMap (fun v => v.cells.toList) = flat e xs) (hxl : xs.length = n)
    (h : ∀ a, WL P ops Q rest N ((d, .slice a xs.length n) :: l) W (row e.T e.sz a xs.length n (flat e xs) :: L)) : WL P ops Q (⟨some d, .buildSlice t n parts, ty, pos, af, none⟩ :: rest) N l W L :=
  o_runx (α := Option Addr) hd (vv := fun a => .slice a xs.length n) (LL := fun a => row e.T e.sz a xs.length n (flat e xs) :: L) (fun a w K S => by
    have hps : (parts.map fun (p : Nat × Operand) => (p.1, a.eval p.2)).toList = (vs.zipIdx 0).map fun p => (p.2, p.1) := by
      have := opps_map K hp
      simpa using this
    subst hn
    have hz : ∀ z : Array Value, ((Array.range (vs.length * e.sz)).map (fun i => z[i % z.size]!)).size = (0 + vs.length) * e.sz := fun z => by simp
    refine ⟨some ⟨w.heap.size, 0, none⟩, w.alloc (.cells (flat e xs).toArray e.T), ?_, ?_⟩
    · have hfill := fun z : Array Value => fillSeq e.sz vs 0 ((Array.range (vs.length * e.sz)).map (fun i => z[i % z.size]!)) (hz z) hs
      simp only [Nat.zero_mul, List.take_zero, List.nil_append, hx] at hfill
      have hle : ¬ 16777216 < vs.length * e.sz := by have := Nat.le_of_ble_eq_true hb; omega
      have hfill' : ∀ z : Array Value, Instr.fill (fun i => some (i * e.sz, e.sz)) ((Array.range (vs.length * e.sz)).map (fun i => z[i % z.size]!)) (parts.map fun (p : Nat × Operand) => (p.1, a.eval p.2)).toList = some (flat e xs).toArray := fun z => by
        rw [hps]; exact hfill z
      have hbuild : (Instr.buildSlice t vs.length (parts.map fun (p : Nat × Operand) => (p.1, a.eval p.2))).run P w = .ok (.slice (some ⟨w.heap.size, 0, none⟩) vs.length vs.length) (w.alloc (.cells (flat e xs).toArray e.T)) := by
        unfold Instr.buildSlice
        rw [Sem.run_bind, run_underlying ht, Result.andThen_ok]
        dsimp only
        rw [Sem.run_bind, run_sizeOf' ok.ti, Result.andThen_ok]
        rw [if_neg (by omega)]
        by_cases h0 : vs.length * e.sz = 0
        · rw [if_pos h0, Sem.run_bind, Sem.run_pure, Result.andThen_ok, hfill' #[]]
          simp [newRow]
        · rw [if_neg h0, Sem.run_bind, run_zeroValue' ok.ti, Result.andThen_ok, Sem.run_bind, Sem.run_pure, Result.andThen_ok, hfill' e.z.cells]
          simp [newRow]
      simp only [execOp]
      rw [Sem.run_bind]
      rw [hxl]
      first
        | (rw [hbuild]; rfl)
        | (erw [hbuild]; rfl)
    · rw [hxl]
      have hfl := flat_length ok xs
      refine (S.alloc _).own_mk (Nat.le_refl _) ?_ ?_ ?_
      · have := Nat.le_of_ble_eq_true hb
        have h2 := Nat.le_mul_of_pos_right vs.length ok.pos
        simp only [maxLen]; omega
      · simp [hfl, hxl]
      · simp [← hxl, ← hfl]) h
theorem lit_ok {vs : List Value} {n : Nat} (h : vs.all (fun v => v.cells.size == n) = true) : ∀ v ∈ vs, v.cells.size = n := fun v hv => by
  have := List.all_eq_true.1 h v hv
  simpa using this
theorem rds_nil {α : Type} (e : Enc α) (a : Option Addr) : RdS W L e a ([] : List α) := fun w S h => absurd rfl h
theorem l_nilrow {α : Type} (e : Enc α) (h : WL P ops Q rest N l W (row e.T e.sz none ([] : List α).length 0 (flat e []) :: L)) : WL P ops Q rest N l W L := l_conv (fun w S => S.own_nil) h
theorem c_nilrow {α : Type} {c : Code} (e : Enc α) (h : WC P c Q N l W (row e.T e.sz none ([] : List α).length 0 (flat e []) :: L)) : WC P c Q N l W L := c_conv (fun w S => S.own_nil) h

/-! ### A struct that is built -/
def placesOf (fs : Array Field) : Sem (Array (Nat × Nat)) := fs.mapM fun f => do pure (f.offset, ← sizeOf f.type)
structure StructP (P : Program) (t : TypeId) (places : Array (Nat × Nat)) : Prop where
  is : ∃ fs, P.underlying t = some (.struct fs) ∧ ∀ w, (placesOf fs).run P w = .ok places w
def oppsAny (l : Fr) : List (Nat × Operand) → Option (List (Nat × Value))
  | [] => some []
  | (j, x) :: ps => match opv l x, oppsAny l ps with
    | some v, some vs => some ((j, v) :: vs)
    | _, _ => none
theorem oppsAny_map {a : Act} {N : FN} {l : Fr} (K : Know a N l) : ∀ {ps : List (Nat × Operand)} {vs : List (Nat × Value)}, oppsAny l ps = some vs → ps.map (fun p => (p.1, a.eval p.2)) = vs
  | [], vs, h => by simp only [oppsAny, Option.some.injEq] at h; subst h; rfl
  | (j, x) :: ps, vs, h => by
    simp only [oppsAny] at h
    split at h
    · rename_i v vs' h1 h2
      simp only [Option.some.injEq] at h
      subst h
      simp [K.eval h1, oppsAny_map K h2]
    · cases h
theorem fill_nil {place : Nat → Option (Nat × Nat)} {cells : Array Value} : Instr.fill place cells [] = some cells := rfl
theorem fill_cons {place : Nat → Option (Nat × Nat)} {zs cells' out : List Value} {j off sz : Nat} {v : Value} {ps : List (Nat × Value)} (hp : place j = some (off, sz)) (hs : v.cells.size = sz) (hle : Nat.ble (off + sz) zs.length = true)
    (hc : zs.take off ++ v.cells.toList ++ zs.drop (off + sz) = cells') (h : Instr.fill place cells'.toArray ps = some out.toArray) : Instr.fill place zs.toArray ((j, v) :: ps) = some out.toArray := by
  have hle' := Nat.le_of_ble_eq_true hle
  simp only [Instr.fill, hp]
  rw [if_neg (by simp [hs]; omega)]
  have hseg := setSeg off v.cells.toList 0 zs.toArray (by simp [hs]; omega)
  have hz : (v.cells.zipIdx.foldl (fun cs (p : Value × Nat) => cs.setIfInBounds (off + p.2) p.1) zs.toArray) = cells'.toArray := by
    apply Array.toList_inj.1
    rw [← Array.foldl_toList, Array.toList_zipIdx]
    simpa [hs, hc] using hseg
  rw [hz]
  exact h
theorem o_build {t : TypeId} {parts : Array (Nat × Operand)} {places : Array (Nat × Nat)} {z : Value} {s b : Nat} {vps : List (Nat × Value)} {cells : Array Value} (hd : Nat.ble (d + 1) N = true) (hst : StructP P t places) (hz : TI P t z s b) (hp : oppsAny l parts.toList = some vps)
    (hf : Instr.fill (places[·]?) z.cells vps = some cells) (h : WL P ops Q rest N ((d, .agg cells) :: l) W L) : WL P ops Q (⟨some d, .build t parts, ty, pos, af, none⟩ :: rest) N l W L :=
  o_val hd (fun a w K S => by
    obtain ⟨fs, hu, hpl⟩ := hst.is
    have hps : (parts.map fun (p : Nat × Operand) => (p.1, a.eval p.2)).toList = vps := by
      have := oppsAny_map K hp
      simpa using this
    have hb : (Instr.build t (parts.map fun (p : Nat × Operand) => (p.1, a.eval p.2))).run P w = .ok (.agg cells) w := by
      unfold Instr.build
      rw [Sem.run_bind, run_zeroValue' hz, Result.andThen_ok]
      dsimp only
      rw [Sem.run_bind, run_underlying hu, Result.andThen_ok]
      dsimp only
      rw [Sem.run_bind]
      have := hpl w
      unfold placesOf at this
      rw [this, Result.andThen_ok, hps, hf]
      rfl
    simp only [execOp]
    rw [Sem.run_bind]
    first
      | (rw [hb]; rfl)
      | (erw [hb]; rfl)) h
/-! ### Bytes and strings -/
def bts (xs : List UInt8) : ByteArray := ⟨xs.toArray⟩
theorem bts_inj {xs ys : List UInt8} (h : bts xs = bts ys) : xs = ys := by
  have := congrArg ByteArray.data h
  simpa [bts] using this
theorem bts_eq {xs ys : List UInt8} : bts xs = bts ys ↔ xs = ys := ⟨bts_inj, fun h => by rw [h]⟩
theorem push_bts : ∀ (xs : List UInt8) (s : List UInt8), (xs.map (fun x => (x.toNat : Int))).foldl (fun r n => ByteArray.push r (UInt8.ofNat n.toNat)) (bts s) = bts (s ++ xs)
  | [], s => by simp
  | x :: xs, s => by
    rw [List.map_cons, List.foldl_cons]
    have h1 : (bts s).push (UInt8.ofNat ((x.toNat : Int)).toNat) = bts (s ++ [x]) := by
      simp [bts, ByteArray.push]
    rw [h1, push_bts xs (s ++ [x])]
    simp
theorem flat_bytes {e : Enc UInt8} (hc : e.cells = fun x => [.int .u8 (x.toNat : Int)]) (xs : List UInt8) : flat e xs = (xs.map (fun x => (x.toNat : Int))).map (Value.int .u8) := by
  simp only [flat, hc, List.map_map]
  induction xs with
  | nil => rfl
  | cons y ys ih => simp [ih]
theorem o_bytesStr {e : Enc UInt8} {s t : TypeId} {x : Operand} {a : Option Addr} {c : Nat} {xs : List UInt8} (hc : e.cells = fun x => [.int .u8 (x.toNat : Int)]) (hd : Nat.ble (d + 1) N = true) (hx : opv l x = some (.slice a xs.length c)) (hs : P.underlying s = some (.slice e.T)) (hT : P.underlying e.T = some (.int .u8)) (ht : P.underlying t = some .string) (hr : RdS W L e a xs)
    (h : WL P ops Q rest N ((d, .string (bts xs)) :: l) W L) : WL P ops Q (⟨some d, .convert s t x, ty, pos, af, none⟩ :: rest) N l W L :=
  o_val hd (fun b w K S => by
    have hv : (convert s t (.slice a xs.length c)).run P w = .ok (.string (bts xs)) w := by
      cases a with
      | none =>
        have hn : xs = [] := rds_nilq hr w S rfl
        subst hn
        exact run_convert_bytes_nil w s e.T hs hT _ _ t ht
      | some ad =>
        rw [run_convert_bytes_string w s t e.T _ _ _ hs hT ht]
        have hf := flat_bytes hc xs
        have hl : (loadCells ad xs.length).run P w = .ok ((xs.map (fun x => (x.toNat : Int))).map (Value.int .u8)).toArray w := by
          by_cases h0 : xs = []
          · subst h0; simp [loadCells, loadCellsFrom]
          · obtain ⟨ad', he, hc'⟩ := hr w S h0
            cases he
            have := run_loadCells_list (P := P) w ad ((xs.map (fun x => (x.toNat : Int))).map (Value.int .u8)) (fun j v hj => hc' j v (by rw [hf]; exact hj))
            simpa using this
        rw [run_bytesToString w ad _ c _ hl]
        have h9 := push_bts xs []
        rw [List.nil_append] at h9
        show Result.ok (Value.string _) w = _
        rw [← h9]
        rfl
    simp only [execOp, K.eval hx]
    rw [Sem.run_bind, hv]; rfl) h
/-- A row that bears a mark: it is read alone. -/
def mrow (T sz : Nat) (a : Option Addr) (n c : Nat) (cs : List Value) : Res := fun h =>
  cs.length = n * sz ∧ ∃ g cur m, a = some ⟨g, 0, none⟩ ∧ cur.toList.take (n * sz) = cs ∧ blk g (.cells cur T m) h
theorem rds_mrow {α : Type} {e : Enc α} {a : Option Addr} {xs : List α} {c : Nat} (ok : EncOk P e) (i : Nat) (h : L[i]? = some (mrow e.T e.sz a xs.length c (flat e xs))) : RdS W L e a xs := fun w S hne => by
  obtain ⟨L', S'⟩ := mem_front (List.mem_of_getElem? h) S
  obtain ⟨y, ⟨x, b, hd, he, ⟨hl, g, cur, m, rfl, ht, hb⟩, hb2⟩, hy⟩ := S'.own
  refine ⟨_, rfl, fun j u hj => ?_⟩
  have hrd : Sat W w (blk g (.cells cur e.T m) :: L') := ⟨S'.below, y, ⟨x, b, hd, he, hb, hb2⟩, hy⟩
  rw [Addr.add_mk, Nat.zero_add, hrd.cell]
  rw [← ht, List.getElem?_take] at hj
  split at hj
  · simpa using hj
  · cases hj
theorem o_mark {e : Enc UInt8} {t : TypeId} {x : Operand} {a : Option Addr} {c : Nat} {xs : List UInt8} (ok : EncOk P e) (hne : xs ≠ []) (hd : Nat.ble (d + 1) N = true) (hx : opv l x = some (.slice a xs.length c)) (ht : P.underlying t = some (.slice e.T)) (hT : P.underlying e.T = some (.int .u8))
    (h : WL P ops Q rest N ((d, .slice a xs.length c) :: l) W (mrow e.T e.sz a xs.length c (flat e xs) :: L)) : WL P ops Q (⟨some d, .convert t t x, ty, pos, af, none⟩ :: rest) N l W (row e.T e.sz a xs.length c (flat e xs) :: L) :=
  o_runx (α := Unit) hd (vv := fun _ => .slice a xs.length c) (LL := fun _ => mrow e.T e.sz a xs.length c (flat e xs) :: L) (fun b w K S => by
    obtain ⟨hl, ⟨rfl, h0, _⟩ | ⟨g, cur, rfl, h2, h3, h4, h5, S'⟩⟩ := S.own_cases
    · exact absurd (List.eq_nil_of_length_eq_zero h0) hne
    · refine ⟨(), w.freeze ⟨g, cur.size, none⟩ 1, ?_, ?_⟩
      · have hsh : w.shape? g = some (e.T, cur.size) := by unfold World.shape?; rw [S'.read.2]
        have hv : (convert t t (.slice (some ⟨g, 0, none⟩) xs.length c)).run P w = .ok (.slice (some ⟨g, 0, none⟩) xs.length c) (w.freeze ⟨g, cur.size, none⟩ 1) := by
          simp [convert, run_underlying ht, run_underlying hT, markStringish, hsh]
        simp only [execOp, K.eval hx]
        rw [Sem.run_bind, hv]; rfl
      · have S2 : Sat W (w.freeze ⟨g, cur.size, none⟩ 1) (blk g (.cells cur e.T (cur.size, cur.size + 1)) :: L) := by
          unfold World.freeze
          rw [if_neg (by decide)]
          exact S'.turn rfl rfl rfl (by simp) (by simp [Array.getElem?_modify, S'.read.2]) (fun j hj => by simp [Array.getElem?_modify, Ne.symm hj])
        exact S2.imp fun hh hb => ⟨hl, g, cur, _, rfl, h5, hb⟩) fun _ => h
theorem icast {o : Operand} {k : IntKind} {q : Int} {m : Nat} (h : opv l o = some (.int k q)) (e : q = (m : Int)) : opv l o = some (.int k (m : Int)) := e ▸ h
/-- A piece of a list. -/
def sub {α : Type} (xs : List α) (l h : Nat) : List α := (xs.take h).drop l
theorem sub_len {α : Type} {xs : List α} {l h : Nat} (hh : h ≤ xs.length) : (sub xs l h).length = h - l := by simp [sub]; omega
theorem sub_get {α : Type} {xs : List α} {l h i : Nat} (hi : i < h - l) : (sub xs l h)[i]? = xs[l + i]? := by
  simp only [sub, List.getElem?_drop]
  rw [List.getElem?_take, if_pos (by omega)]
theorem flat_drop {α : Type} {e : Enc α} (ok : EncOk P e) : ∀ (xs : List α) (k : Nat), flat e (xs.drop k) = (flat e xs).drop (k * e.sz)
  | [], k => by simp [flat]
  | x :: xs, 0 => by simp
  | x :: xs, k + 1 => by
    rw [List.drop_succ_cons, flat_drop ok xs k]
    show _ = (e.cells x ++ flat e xs).drop _
    have h1 : (k + 1) * e.sz = (e.cells x).length + k * e.sz := by rw [ok.len, Nat.add_mul]; omega
    rw [h1, List.drop_length_add_append]
theorem flat_take {α : Type} {e : Enc α} (ok : EncOk P e) : ∀ (xs : List α) (k : Nat), flat e (xs.take k) = (flat e xs).take (k * e.sz)
  | [], k => by simp [flat]
  | x :: xs, 0 => by simp [flat]
  | x :: xs, k + 1 => by
    rw [List.take_succ_cons]
    show e.cells x ++ flat e (xs.take k) = (e.cells x ++ flat e xs).take _
    have h1 : (k + 1) * e.sz = (e.cells x).length + k * e.sz := by rw [ok.len, Nat.add_mul]; omega
    rw [h1, List.take_length_add_append, flat_take ok xs k]
theorem Addr.add_add3 (p : Addr) (a b : Nat) : (p.add a).add b = p.add (a + b) := Addr.add_add' p a b
theorem rds_cut {α : Type} {e : Enc α} {a : Option Addr} {xs : List α} (ok : EncOk P e) (hr : RdS W L e a xs) (l' h' m : Nat) (hm : h' ≤ m) : RdS W L e (cutA a m l' e.sz) (sub xs l' h') := fun w S hne => by
  have hx : xs ≠ [] := fun h0 => hne (by simp [sub, h0])
  obtain ⟨ad, rfl, hc⟩ := hr w S hx
  by_cases hml : m = l'
  · exact absurd (List.eq_nil_of_length_eq_zero (by simp [sub]; omega)) hne
  · refine ⟨ad.add (l' * e.sz), by simp [cutA, hml], fun j u hj => ?_⟩
    rw [Addr.add_add']
    refine hc _ _ ?_
    rw [sub, flat_drop ok, flat_take ok, List.getElem?_drop, List.getElem?_take] at hj
    split at hj
    · exact hj
    · cases hj
theorem cutA_zero {g m sz : Nat} : cutA (some ⟨g, 0, none⟩) m 0 sz = some ⟨g, 0, none⟩ := by
  unfold cutA
  split
  · rfl
  · simp [Addr.add_mk]
theorem cutA_none {m lo sz : Nat} : cutA none m lo sz = none := by unfold cutA; split <;> rfl
/-- append onto the head of a row (rest[:k:m]). -/
theorem o_appendAt {α : Type} {e : Enc α} {t : TypeId} {x y : Operand} {a b b' : Option Addr} {c c2 k m : Nat} {xs ys zs : List α} (ok : EncOk P e) (ea : cutA a m 0 e.sz = b') (hzs : zs = sub xs 0 k) (hk : k ≤ xs.length) (hkm : k ≤ m) (hmc : m ≤ c) (hd : Nat.ble (d + 1) N = true) (hx : opv l x = some (.slice b' zs.length (m - 0))) (hy : opv l y = some (.slice b ys.length c2)) (ht : P.underlying t = some (.slice e.T))
    (hr : RdS W (row e.T e.sz a xs.length c (flat e xs) :: L) e b ys) (hb : (zs.length + ys.length) * e.bytes ≤ 140737488355328) (hm : zs.length + ys.length ≤ 140737488355328)
    (h : ∀ a' c', WL P ops Q rest N ((d, .slice a' (zs ++ ys).length c') :: l) W (row e.T e.sz a' (zs ++ ys).length c' (flat e (zs ++ ys)) :: L)) :
    WL P ops Q (⟨some d, .call { callee := .builtin .append, args := #[x, y], argTypes := #[t, t] }, ty, pos, af, none⟩ :: rest) N l W (row e.T e.sz a xs.length c (flat e xs) :: L) :=
  o_runx (α := Option Addr × Nat) hd (vv := fun p => .slice p.1 (zs ++ ys).length p.2) (LL := fun p => row e.T e.sz p.1 (zs ++ ys).length p.2 (flat e (zs ++ ys)) :: L) (fun ac w K S => by
    obtain ⟨i, hi, hz, hs, hby⟩ := ok.ti.get
    rw [Nat.sub_zero] at hx
    have hzl : zs.length = k := by rw [hzs, sub_len hk]; rfl
    have hzt : flat e zs = (flat e xs).take (k * e.sz) := by rw [hzs, sub, List.drop_zero, flat_take ok]
    cases b with
    | some bd =>
      have hnews : ∀ j u, (flat e ys)[j]? = some u → w.cell? (bd.add j) = some u := fun j u hj => by
        by_cases hys : ys = []
        · subst hys; simp [flat] at hj
        · obtain ⟨ad, he, hc⟩ := hr w S hys
          cases he
          exact hc j u hj
      have hny := flat_length ok ys
      obtain ⟨hl, ⟨h1, h2, h3, S'⟩ | ⟨g, cur, h1, h2, h3, h4, h5, S'⟩⟩ := S.own_cases
      · subst h1; subst h3
        rw [cutA_none] at ea
        subst ea
        obtain rfl : m = 0 := by omega
        obtain rfl : k = 0 := by omega
        have hz0 : zs = [] := List.eq_nil_of_length_eq_zero hzl
        subst hz0
        obtain ⟨v', w', h1, h2, h3, _, h5⟩ := run_append_own_at (P := P) w w.heap.size t ty e.T i e.z e.sz e.bytes ht hi hz hs hby ok.zs ok.pos (.slice none 0 0) 0 [] (World.ownsRow_nil w _ e.T e.sz) bd ys.length c2 (flat e ys) hny hnews (flat_one ok ys) (by simp only [maxLen]; omega) (by simpa using hb) (Nat.le_refl _)
        obtain ⟨a', c', rfl, S2⟩ := S'.tail.own_new h2 (by simpa [Value.ownBlock] using h3)
        refine ⟨(a', c'), w', ?_, by simpa [flat_append] using S2⟩
        simp [execOp, resolve, invoke, builtin, K.eval hx, K.eval hy, h1]
      · subst h1
        rw [cutA_zero] at ea
        subst ea
        have hkc : cur.toList.take (k * e.sz) = flat e zs := by
          rw [hzt, ← h5, List.take_take, Nat.min_eq_left (Nat.mul_le_mul_right _ hk)]
        have hkl : (flat e zs).length = k * e.sz := by rw [flat_length ok, hzl]
        by_cases hroom : k + ys.length ≤ m
        · have hle : (k + ys.length) * e.sz ≤ cur.size := Nat.le_trans (Nat.mul_le_mul_right _ (Nat.le_trans hroom hmc)) h4
          rw [Nat.add_mul] at hle
          have hst := run_storeCells_at P g (k * e.sz) e.T (flat e ys) 0 cur w S'.read.2 (by simp; omega) (flat_one ok ys)
          simp only [Nat.add_zero] at hst
          rw [← hs] at hst hny
          have hrun := run_append_room_row (P := P) t ty e.T i ht hi g 0 k m bd ys.length c2 (flat e ys) hny hnews hroom (by rw [Nat.zero_add]; exact hst)
          refine ⟨(some ⟨g, 0, none⟩, m), w.setRow g (cur.toList.take (k * e.sz) ++ flat e ys ++ cur.toList.drop (k * e.sz + (flat e ys).length)).toArray, ?_, ?_⟩
          · rw [← hs]
            rw [hzl] at hx
            simp [execOp, resolve, invoke, builtin, K.eval hx, K.eval hy, hrun, hzl]
          · have S2 : Sat W (w.setRow g (cur.toList.take (k * e.sz) ++ flat e ys ++ cur.toList.drop (k * e.sz + (flat e ys).length)).toArray) (blk g (.cells (cur.toList.take (k * e.sz) ++ flat e ys ++ cur.toList.drop (k * e.sz + (flat e ys).length)).toArray e.T (0, 0)) :: L) :=
              S'.turn rfl rfl rfl (by simp [World.setRow]) (setRow_heap w g cur _ e.T _ S'.read.2) (fun q hq => setRow_other w g q _ hq)
            rw [hs] at hny
            refine S2.own_mk (by rw [List.length_append, hzl]; exact hroom) (by omega) ?_ ?_
            · have hmc2 : m * e.sz ≤ cur.size := Nat.le_trans (Nat.mul_le_mul_right _ hmc) h4
              rw [List.size_toArray]; simp only [List.length_append, List.length_take, List.length_drop, Array.length_toList]; omega
            · rw [List.toList_toArray, hkc, ← flat_append]
              refine List.take_left' ?_
              rw [flat_length ok]
        · obtain ⟨v', w', h1, h2', h3'⟩ := run_append_arg_grows (P := P) w t ty e.T i e.z e.sz e.bytes ht hi hz hs hby ok.zs ok.pos ⟨g, 0, none⟩ k m (flat e zs) hkl (fun j u hj => by
            rw [Addr.add_lit, Nat.zero_add]
            refine S.own_cell j u ?_
            rw [hzt, List.getElem?_take] at hj
            split at hj
            · exact hj
            · cases hj) bd ys.length c2 (flat e ys) hny hnews (by omega) (by simp only [maxLen]; omega) (by rw [← hzl]; exact hb)
          obtain ⟨a', c', rfl, S2⟩ := S'.tail.own_new h2' h3'
          rw [hzl] at hx
          refine ⟨(a', c'), w', ?_, by simpa [flat_append, hzl] using S2⟩
          simp [execOp, resolve, invoke, builtin, K.eval hx, K.eval hy, h1, hzl]
    | none =>
      have hys : ys = [] := Classical.byContradiction fun h0 => by
        obtain ⟨ad, he, _⟩ := hr w S h0
        cases he
      subst hys
      obtain ⟨hl, ⟨h1, h2, h3, S'⟩ | ⟨g, cur, h1, h2, h3, h4, h5, S'⟩⟩ := S.own_cases
      · subst h1; subst h3
        rw [cutA_none] at ea
        subst ea
        obtain rfl : m = 0 := by omega
        obtain rfl : k = 0 := by omega
        have hz0 : zs = [] := List.eq_nil_of_length_eq_zero hzl
        subst hz0
        refine ⟨(none, 0), w, ?_, S'.tail.own_nil⟩
        simp [execOp, resolve, invoke, builtin, K.eval hx, K.eval hy, Builtin.append_, run_underlying ht, sizeOf, typeInfo, hi, Builtin.lenOf, Builtin.firstCells]
      · subst h1
        rw [cutA_zero] at ea
        subst ea
        rw [hzl] at hx
        refine ⟨(some ⟨g, 0, none⟩, m), w, ?_, ?_⟩
        · simp [execOp, resolve, invoke, builtin, K.eval hx, K.eval hy, Builtin.append_, run_underlying ht, sizeOf, typeInfo, hi, Builtin.lenOf, Builtin.firstCells, hkm, storeCells, hzl]
        · rw [List.append_nil, hzl]
          refine S'.own_mk hkm (by omega) (Nat.le_trans (Nat.mul_le_mul_right _ hmc) h4) ?_
          rw [hzt, ← h5, List.take_take, Nat.min_eq_left (Nat.mul_le_mul_right _ hk)]) fun p => h p.1 p.2
end
end Go.Proofs.Ytlblipkcbmcfkaa
