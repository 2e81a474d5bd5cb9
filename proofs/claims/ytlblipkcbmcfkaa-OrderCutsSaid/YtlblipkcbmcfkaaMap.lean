/- Maps as lists of keys with values, in the order in which the keys came. -/
import Derived.Test.YtlblipkcbmcfkaaMem
set_option linter.unusedVariables false
set_option linter.unusedSimpArgs false
namespace Go.Proofs.Ytlblipkcbmcfkaa
open Go.RowKit

/-- Where a key stands. -/
def mat {κ β : Type} [DecidableEq κ] : List (κ × β) → κ → Option (Nat × β)
  | [], _ => none
  | (j, b) :: D, k => if j = k then some (0, b) else (mat D k).map fun p => (p.1 + 1, p.2)
def mget {κ β : Type} [DecidableEq κ] (D : List (κ × β)) (k : κ) : Option β := (mat D k).map (·.2)
def mset {κ β : Type} [DecidableEq κ] (D : List (κ × β)) (k : κ) (b : β) : List (κ × β) :=
  match mat D k with
  | some (i, _) => D.set i (k, b)
  | none => D ++ [(k, b)]
section
variable {κ β : Type} [DecidableEq κ]
theorem mget_nil (k : κ) : mget ([] : List (κ × β)) k = none := rfl
theorem mget_cons (D : List (κ × β)) (j k : κ) (b : β) : mget ((j, b) :: D) k = if j = k then some b else mget D k := by
  simp only [mget, mat]
  split
  · rfl
  · cases mat D k <;> rfl
theorem mat_some {D : List (κ × β)} {k : κ} {i : Nat} {b : β} (h : mat D k = some (i, b)) : D[i]? = some (k, b) := by
  induction D generalizing i with
  | nil => cases h
  | cons p D ih =>
    obtain ⟨j, c⟩ := p
    simp only [mat] at h
    split at h
    · rename_i e
      simp only [Option.some.injEq, Prod.mk.injEq] at h
      obtain ⟨rfl, rfl⟩ := h
      simp [e]
    · simp only [Option.map_eq_some_iff] at h
      obtain ⟨⟨i', b'⟩, h1, h2⟩ := h
      simp only [Prod.mk.injEq] at h2
      obtain ⟨rfl, rfl⟩ := h2
      simpa using ih h1
theorem mat_append_none {D : List (κ × β)} {k : κ} (h : mat D k = none) (E : List (κ × β)) : mat (D ++ E) k = (mat E k).map fun p => (p.1 + D.length, p.2) := by
  induction D with
  | nil => simp
  | cons p D ih =>
    obtain ⟨j, c⟩ := p
    simp only [mat] at h
    split at h
    · cases h
    · rename_i e
      simp only [Option.map_eq_none_iff] at h
      simp only [List.cons_append, mat, e, if_false, ih h, Option.map_map, List.length_cons]
      congr 1
theorem mget_set (D : List (κ × β)) (k : κ) (b : β) (j : κ) : mget (mset D k b) j = if k = j then some b else mget D j := by
  unfold mset
  cases hm : mat D k with
  | none =>
    simp only
    by_cases e : k = j
    · subst e
      simp [mget, mat_append_none hm, mat]
    · rw [if_neg e]
      clear hm
      induction D with
      | nil => simp [mget, mat, e]
      | cons p D ih =>
        obtain ⟨i, c⟩ := p
        rw [List.cons_append, mget_cons, mget_cons, ih]
  | some p =>
    obtain ⟨i, c⟩ := p
    simp only
    induction D generalizing i with
    | nil => cases hm
    | cons p D ih =>
      obtain ⟨i', c'⟩ := p
      simp only [mat] at hm
      split at hm
      · rename_i e
        simp only [Option.some.injEq, Prod.mk.injEq] at hm
        obtain ⟨rfl, rfl⟩ := hm
        subst e
        simp only [List.set_cons_zero, mget_cons]
        split <;> rfl
      · rename_i e
        simp only [Option.map_eq_some_iff] at hm
        obtain ⟨⟨i2, b2⟩, h1, h2⟩ := hm
        simp only [Prod.mk.injEq] at h2
        obtain ⟨rfl, rfl⟩ := h2
        rw [List.set_cons_succ, mget_cons, mget_cons, ih i2 h1]
        by_cases e2 : i' = j
        · subst e2
          rw [if_pos rfl, if_pos rfl, if_neg (fun h => e h.symm)]
        · rw [if_neg e2, if_neg e2]
theorem mset_length (D : List (κ × β)) (k : κ) (b : β) : (mset D k b).length = if mget D k = none then D.length + 1 else D.length := by
  unfold mset mget
  cases mat D k with
  | none => simp
  | some p => simp
end

structure Ents {κ β : Type} (kv : κ → Value) (vv : β → Value) (D : List (κ × β)) (es : Array MapEntry) (clock : Nat) : Prop where
  same : es.toList.map (fun e => (e.key, e.val)) = D.map fun p => (kv p.1, vv p.2)
  born : (es.toList.map (·.born)).Pairwise (· < ·)
  less : ∀ e ∈ es.toList, e.born < clock
def mapR {κ β : Type} (kv : κ → Value) (vv : β → Value) (k : Nat) (D : List (κ × β)) : Res := fun h => ∃ es clock, Ents kv vv D es clock ∧ blk k (.map es clock) h
/-- A key's kind: the machine finds it. -/
structure KeyOk {κ : Type} [DecidableEq κ] (P : Program) (T : TypeId) (kv : κ → Value) : Prop where
  check : ∀ b k w, (Instr.checkKey b 10000 T (kv k)).run P w = .ok () w
  find : ∀ {β : Type} (vv : β → Value) (D : List (κ × β)) (es : List MapEntry) (k : κ) (w : World), es.map (fun e => (e.key, e.val)) = D.map (fun p => (kv p.1, vv p.2)) →
    (Instr.findKey T (kv k) es).run P w = .ok ((mat D k).map fun p => (p.1, vv p.2)) w
  bits : ∀ k, Instr.sameBits 10000 (kv k) (kv k) = true
theorem findNow_of {κ β : Type} [DecidableEq κ] {td : TypeDesc} {kv : κ → Value} {vv : β → Value} (hs : ∀ a b, Instr.sameNow td (kv a) (kv b) = some (decide (a = b))) (D : List (κ × β)) (k : κ) : ∀ (es : List MapEntry) (i : Nat),
    es.map (fun e => (e.key, e.val)) = D.map (fun p => (kv p.1, vv p.2)) → Instr.findNow td (kv k) es i = some ((mat D k).map fun p => (p.1 + i, vv p.2)) := by
  induction D with
  | nil =>
    intro es i h
    cases es with
    | nil => rfl
    | cons e es => cases h
  | cons p D ih =>
    intro es i h
    cases es with
    | nil => cases h
    | cons e es =>
      obtain ⟨j, b⟩ := p
      simp only [List.map_cons, List.cons.injEq, Prod.mk.injEq] at h
      obtain ⟨⟨h1, h2⟩, h3⟩ := h
      simp only [Instr.findNow, h1, hs, mat]
      by_cases e : k = j
      · subst e
        simp [h2]
      · have e' : ¬ j = k := fun h => e h.symm
        simp only [e, e', decide_false, if_false]
        rw [ih es (i + 1) h3]
        simp only [Option.map_map]
        congr 2
        funext p
        simp [Nat.add_comm, Nat.add_left_comm]
theorem bytes_beq (a b : ByteArray) : (a == b) = decide (a = b) := by
  cases a; cases b; rename_i x y
  show (x == y) = _
  rw [Bool.eq_iff_iff]
  simp
theorem keyOk_int {P : Program} {T : TypeId} {q : IntKind} (h : P.underlying T = some (.int q)) : KeyOk P T (fun x : Int => Value.int q x) where
  check := fun b k w => by
    have : ∀ n, (Instr.checkKey b (n + 1) T (.int q k)).run P w = .ok () w := fun n => by simp [Instr.checkKey, run_underlying h]
    exact this 9999
  find := fun vv D es k w hes => by
    have := findNow_of (td := .int q) (kv := fun x : Int => Value.int q x) (vv := vv) (fun a b => by simp only [Instr.sameNow, if_true]; rfl) D k es 0 hes
    simp only [Instr.findKey, Sem.run_bind, run_underlying h, Result.andThen_ok, this, Nat.add_zero]
    rfl
  bits := fun k => by simp [Instr.sameBits]
theorem keyOk_str {P : Program} {T : TypeId} (h : P.underlying T = some .string) : KeyOk P T (fun x : ByteArray => Value.string x) where
  check := fun b k w => by
    have : ∀ n, (Instr.checkKey b (n + 1) T (.string k)).run P w = .ok () w := fun n => by simp [Instr.checkKey, run_underlying h]
    exact this 9999
  find := fun vv D es k w hes => by
    have := findNow_of (td := .string) (kv := fun x : ByteArray => Value.string x) (vv := vv) (fun a b => by simp only [Instr.sameNow, Option.some.injEq]; exact bytes_beq a b) D k es 0 hes
    simp only [Instr.findKey, Sem.run_bind, run_underlying h, Result.andThen_ok, this, Nat.add_zero]
    rfl
  bits := fun k => by simp only [Instr.sameBits, bytes_beq, decide_true]

section
variable {κ β : Type} {W w w' : World} {L : List Res} {kv : κ → Value} {vv : β → Value} {k : Nat} {D : List (κ × β)}
theorem Sat.map_read (S : Sat W w (mapR kv vv k D :: L)) : ∃ es clock, Ents kv vv D es clock ∧ Sat W w (blk k (.map es clock) :: L) := by
  obtain ⟨y, ⟨x, b, hd, he, ⟨es, clock, h1, h2⟩, hb⟩, hy⟩ := S.own
  exact ⟨es, clock, h1, S.below, y, ⟨x, b, hd, he, h2, hb⟩, hy⟩
theorem Sat.map_mk {es : Array MapEntry} {clock : Nat} (h : Ents kv vv D es clock) (S : Sat W w (blk k (.map es clock) :: L)) : Sat W w (mapR kv vv k D :: L) := S.imp fun x hx => ⟨es, clock, h, hx⟩
def World.put (w : World) (k : Nat) (o : Obj) : World := { w with heap := w.heap.setIfInBounds k o }
theorem Sat.put {o o' : Obj} (S : Sat W w (blk k o :: L)) : Sat W (World.put w k o') (blk k o' :: L) := by
  have hr := S.read.2
  have hlt := (Array.getElem?_eq_some_iff.1 hr).1
  refine S.turn rfl rfl rfl (by simp [World.put]) ?_ (fun j hj => ?_)
  · simp [World.put, hlt]
  · simp only [World.put]; exact Array.getElem?_setIfInBounds_ne (fun e => hj e.symm)
theorem ents_nil : Ents kv vv ([] : List (κ × β)) #[] 0 := ⟨rfl, by simp, by simp⟩
theorem ents_push {es : Array MapEntry} {clock : Nat} (h : Ents kv vv D es clock) (q : κ) (b : β) : Ents kv vv (D ++ [(q, b)]) (es.push { key := kv q, val := vv b, born := clock }) (clock + 1) := by
  refine ⟨?_, ?_, ?_⟩
  · simp [h.same]
  · simp only [Array.toList_push, List.map_append, List.map_cons, List.map_nil]
    rw [List.pairwise_append]
    refine ⟨h.born, by simp, ?_⟩
    intro x hx y hy
    simp only [List.mem_map] at hx
    obtain ⟨e, he, rfl⟩ := hx
    simp only [List.mem_singleton] at hy
    subst hy
    exact h.less e he
  · intro e he
    simp only [Array.toList_push, List.mem_append, List.mem_singleton] at he
    rcases he with he | he
    · have := h.less e he; omega
    · subst he; simp
theorem modify_list {es : Array MapEntry} {i : Nat} (f : MapEntry → MapEntry) : (es.modify i f).toList = es.toList.modify i f := by simp
theorem ents_set [DecidableEq κ] {es : Array MapEntry} {clock i : Nat} {q : κ} {b0 : β} (h : Ents kv vv D es clock) (hm : mat D q = some (i, b0)) (b : β) : Ents kv vv (D.set i (q, b)) (es.modify i fun e => { e with key := kv q, val := vv b }) clock := by
  have hD := mat_some hm
  refine ⟨?_, ?_, ?_⟩
  · rw [modify_list]
    apply List.ext_getElem?
    intro j
    have hj := congrArg (·[j]?) h.same
    simp only [List.getElem?_map] at hj
    simp only [List.getElem?_map, List.getElem?_modify, List.getElem?_set]
    by_cases e : i = j
    · subst e
      have hlt := (List.getElem?_eq_some_iff.1 hD).1
      rw [hD] at hj
      cases hg : es.toList[i]? with
      | none => rw [hg] at hj; cases hj
      | some x => simp [hlt]
    · simp only [e, if_false]
      cases hg : es.toList[j]? with
      | none => rw [hg] at hj; simpa using hj
      | some x => rw [hg] at hj; simpa using hj
  · rw [modify_list]
    have : (es.toList.modify i fun e => { e with key := kv q, val := vv b }).map (·.born) = es.toList.map (·.born) := by
      apply List.ext_getElem?
      intro j
      simp only [List.getElem?_map, List.getElem?_modify]
      cases es.toList[j]? with
      | none => rfl
      | some x => by_cases e : i = j <;> simp [e]
    rw [this]
    exact h.born
  · intro e he
    rw [modify_list] at he
    obtain ⟨j, hj⟩ := List.getElem?_of_mem he
    rw [List.getElem?_modify] at hj
    cases hg : es.toList[j]? with
    | none => rw [hg] at hj; cases hj
    | some x =>
      rw [hg] at hj
      have hx := h.less x (List.mem_of_getElem? hg)
      by_cases e2 : i = j
      · simp only [e2, if_true, Option.map_eq_map, Option.map_some, Option.some.injEq] at hj
        subst hj
        exact hx
      · simp only [e2, if_false, Option.map_eq_map, Option.map_some, Option.some.injEq, id] at hj
        subst hj
        exact hx
end
theorem mem_idx {A : Res} {L : List Res} (i : Nat) (h : L[i]? = some A) {W w : World} (S : Sat W w L) : ∃ L', Sat W w (A :: L') := mem_front (List.mem_of_getElem? h) S

section
variable {P : Program} {N : FN} {l : Fr} {W : World} {L L0 : List Res} {Q : Exit → Act → World → Prop} {ops : Array Oper} {rest : List Oper}
variable {d : Nat} {ty : TypeId} {pos : String} {af : Array Edge} {κ β : Type} {kv : κ → Value} {vv : β → Value} {k : Nat} {D : List (κ × β)}
theorem o_makeMap {t : TypeId} (kv : κ → Value) (vv : β → Value) (hd : Nat.ble (d + 1) N = true) (h : ∀ k, WL P ops Q rest N ((d, .map (some k)) :: l) W (mapR kv vv k ([] : List (κ × β)) :: L)) :
    WL P ops Q (⟨some d, .makeMap t none, ty, pos, af, none⟩ :: rest) N l W L :=
  o_runx hd (vv := fun k => .map (some k)) (LL := fun k => mapR kv vv k ([] : List (κ × β)) :: L) (fun a w K S => ⟨w.heap.size, w.alloc (.map #[] 0), by
    simp [execOp, Instr.makeMap, run_newObj_alloc], (S.alloc _).map_mk ents_nil⟩) h
section
variable [DecidableEq κ]
theorem run_lookup {t Tk Te : TypeId} (ko : KeyOk P Tk kv) (ht : P.underlying t = some (.map Tk Te)) {z : Value} {s b : Nat} (hz : TI P Te z s b) (q : κ) (ok : Bool) {w : World} (S : Sat W w (mapR kv vv k D :: L)) :
    (Instr.lookup t (.map (some k)) (kv q) ok).run P w = .ok (if ok then .tuple #[((mget D q).map vv).getD z, .bool (mget D q).isSome] else ((mget D q).map vv).getD z) w := by
  obtain ⟨es, clock, he, S'⟩ := S.map_read
  have hr := S'.read.2
  have hf := ko.find vv D es.toList q w he.same
  have hc := ko.check es.isEmpty q w
  simp only [Instr.lookup, Sem.run_bind, run_underlying ht, Result.andThen_ok]
  have hg : (getObj k).run P w = .ok (.map es clock) w := by simp [getObj, Sem.run, hr]
  simp only [Sem.run_bind, hg, Result.andThen_ok, Sem.run_pure, hc, hf, mget]
  cases mat D q with
  | none => cases ok <;> simp [run_zeroValue' hz]
  | some p => cases ok <;> simp
theorem o_lookup {t Tk Te : TypeId} {x y : Operand} {z : Value} {s b : Nat} {q : κ} (i : Nat) (hL : L[i]? = some (mapR kv vv k D)) (ko : KeyOk P Tk kv) (hd : Nat.ble (d + 1) N = true) (hx : opv l x = some (.map (some k))) (hy : opv l y = some (kv q)) (ht : P.underlying t = some (.map Tk Te)) (hz : TI P Te z s b)
    (h : WL P ops Q rest N ((d, ((mget D q).map vv).getD z) :: l) W L) : WL P ops Q (⟨some d, .lookup t x y false, ty, pos, af, none⟩ :: rest) N l W L :=
  o_val hd (fun a w K S => by
    obtain ⟨L', S'⟩ := mem_idx i hL S
    have := run_lookup ko ht hz q false S'
    simp [execOp, K.eval hx, K.eval hy, this]) h
theorem o_lookupOk {t Tk Te : TypeId} {x y : Operand} {z : Value} {s b : Nat} {q : κ} (i : Nat) (hL : L[i]? = some (mapR kv vv k D)) (ko : KeyOk P Tk kv) (hd : Nat.ble (d + 1) N = true) (hx : opv l x = some (.map (some k))) (hy : opv l y = some (kv q)) (ht : P.underlying t = some (.map Tk Te)) (hz : TI P Te z s b)
    (h : WL P ops Q rest N ((d, .tuple #[((mget D q).map vv).getD z, .bool (mget D q).isSome]) :: l) W L) : WL P ops Q (⟨some d, .lookup t x y true, ty, pos, af, none⟩ :: rest) N l W L :=
  o_val hd (fun a w K S => by
    obtain ⟨L', S'⟩ := mem_idx i hL S
    have := run_lookup ko ht hz q true S'
    simp [execOp, K.eval hx, K.eval hy, this]) h
end
section
variable [DecidableEq κ]
theorem o_lookupD {t Tk Te : TypeId} {x y : Operand} {s b : Nat} {q : κ} {b0 : β} (i : Nat) (hL : L[i]? = some (mapR kv vv k D)) (ko : KeyOk P Tk kv) (hd : Nat.ble (d + 1) N = true) (hx : opv l x = some (.map (some k))) (hy : opv l y = some (kv q)) (ht : P.underlying t = some (.map Tk Te)) (hz : TI P Te (vv b0) s b)
    (h : WL P ops Q rest N ((d, vv ((mget D q).getD b0)) :: l) W L) : WL P ops Q (⟨some d, .lookup t x y false, ty, pos, af, none⟩ :: rest) N l W L :=
  o_val hd (fun a w K S => by
    obtain ⟨L', S'⟩ := mem_idx i hL S
    have := run_lookup ko ht hz q false S'
    have h9 : ((mget D q).map vv).getD (vv b0) = vv ((mget D q).getD b0) := by cases mget D q <;> rfl
    rw [h9] at this
    simp [execOp, K.eval hx, K.eval hy, this]) h
theorem o_lookupDOk {t Tk Te : TypeId} {x y : Operand} {s b : Nat} {q : κ} {b0 : β} (i : Nat) (hL : L[i]? = some (mapR kv vv k D)) (ko : KeyOk P Tk kv) (hd : Nat.ble (d + 1) N = true) (hx : opv l x = some (.map (some k))) (hy : opv l y = some (kv q)) (ht : P.underlying t = some (.map Tk Te)) (hz : TI P Te (vv b0) s b)
    (h : WL P ops Q rest N ((d, .tuple #[vv ((mget D q).getD b0), .bool (mget D q).isSome]) :: l) W L) : WL P ops Q (⟨some d, .lookup t x y true, ty, pos, af, none⟩ :: rest) N l W L :=
  o_val hd (fun a w K S => by
    obtain ⟨L', S'⟩ := mem_idx i hL S
    have := run_lookup ko ht hz q true S'
    have h9 : ((mget D q).map vv).getD (vv b0) = vv ((mget D q).getD b0) := by cases mget D q <;> rfl
    rw [h9] at this
    simp [execOp, K.eval hx, K.eval hy, this]) h
end
theorem o_lenMap {t Tk Te : TypeId} {x : Operand} (i : Nat) (hL : L[i]? = some (mapR kv vv k D)) (hd : Nat.ble (d + 1) N = true) (hx : opv l x = some (.map (some k))) (ht : P.underlying t = some (.map Tk Te)) (h : WL P ops Q rest N ((d, .int .i64 (D.length : Int)) :: l) W L) :
    WL P ops Q (⟨some d, .call { callee := .builtin .len, args := #[x], argTypes := #[t] }, ty, pos, af, none⟩ :: rest) N l W L :=
  o_val hd (fun a w K S => by
    obtain ⟨L', S'⟩ := mem_idx i hL S
    obtain ⟨es, clock, he, S2⟩ := S'.map_read
    have hr := S2.read.2
    have hg : (getObj k).run P w = .ok (.map es clock) w := by simp [getObj, Sem.run, hr]
    have hl : es.size = D.length := by
      have := congrArg List.length he.same
      simpa using this
    simp [execOp, resolve, invoke, builtin, K.eval hx, Builtin.len_, run_underlying ht, goInt, hg, hl]) h
theorem run_setObj_put {w : World} {o o' : Obj} (hr : w.heap[k]? = some o) (ho : (match o with | .cells .. => false | _ => true) = true) : (setObj k o').run P w = .ok () (World.put w k o') := by
  cases o <;> first | (simp at ho; done) | simp [setObj, Sem.run, hr, World.put]
theorem o_mapUpdate [DecidableEq κ] {t Tk Te : TypeId} {x y v : Operand} {q : κ} {b : β} (ko : KeyOk P Tk kv) (hx : opv l x = some (.map (some k))) (hy : opv l y = some (kv q)) (hv : opv l v = some (vv b)) (ht : P.underlying t = some (.map Tk Te))
    (h : WL P ops Q rest N l W (mapR kv vv k (mset D q b) :: L)) : WL P ops Q (⟨none, .mapUpdate t x y v, ty, pos, af, none⟩ :: rest) N l W (mapR kv vv k D :: L) :=
  o_skip (fun a w K S => by
    obtain ⟨es, clock, he, S'⟩ := S.map_read
    have hr := S'.read.2
    have hf := ko.find vv D es.toList q w he.same
    have hc := ko.check false q w
    have hg : (getObj k).run P w = .ok (.map es clock) w := by simp [getObj, Sem.run, hr]
    cases hm : mat D q with
    | none =>
      refine ⟨_, ?_, (S'.put (o' := .map (es.push { key := kv q, val := vv b, born := clock }) (clock + 1))).map_mk (by unfold mset; rw [hm]; exact ents_push he q b)⟩
      rw [hm] at hf
      simp only [execOp, K.eval hx, K.eval hy, K.eval hv, Instr.mapUpdate, Sem.run_bind, run_underlying ht, Result.andThen_ok, hg, hc, hf, Option.map_none]
      rw [run_setObj_put hr rfl]
      simp
    | some p =>
      obtain ⟨i, b0⟩ := p
      refine ⟨_, ?_, (S'.put (o' := .map (es.modify i fun e => { e with key := kv q, val := vv b }) clock)).map_mk (by unfold mset; rw [hm]; exact ents_set he hm b)⟩
      rw [hm] at hf
      have hk : ((es[i]?).map (·.key)).getD (kv q) = kv q := by
        have hD := mat_some hm
        have hj := congrArg (·[i]?) he.same
        simp only [List.getElem?_map, hD, Option.map_some] at hj
        cases hgi : es.toList[i]? with
        | none => rw [hgi] at hj; cases hj
        | some e0 =>
          rw [hgi] at hj
          simp only [Option.map_some, Option.some.injEq, Prod.mk.injEq] at hj
          rw [Array.getElem?_toList] at hgi
          simp [hgi, hj.1]
      simp only [execOp, K.eval hx, K.eval hy, K.eval hv, Instr.mapUpdate, Sem.run_bind, run_underlying ht, Result.andThen_ok, hg, hc, hf, Option.map_some, hk, Instr.keyThatStays, ko.bits, if_true, Sem.run_pure]
      rw [run_setObj_put hr rfl]
      simp) h
theorem ents_clear {kv : κ → Value} {vv : β → Value} (clock : Nat) : Ents kv vv ([] : List (κ × β)) #[] clock := ⟨rfl, by simp, by simp⟩
theorem o_clearMap {t Tk Te : TypeId} {x : Operand} (hd : Nat.ble (d + 1) N = true) (hx : opv l x = some (.map (some k))) (ht : P.underlying t = some (.map Tk Te)) (h : WL P ops Q rest N ((d, .tuple #[]) :: l) W (mapR kv vv k ([] : List (κ × β)) :: L)) :
    WL P ops Q (⟨some d, .call { callee := .builtin .clear, args := #[x], argTypes := #[t] }, ty, pos, af, none⟩ :: rest) N l W (mapR kv vv k D :: L) :=
  o_run hd (fun a w K S => by
    obtain ⟨es, clock, he, S'⟩ := S.map_read
    have hr := S'.read.2
    have hg : (getObj k).run P w = .ok (.map es clock) w := by simp [getObj, Sem.run, hr]
    refine ⟨_, ?_, (S'.put (o' := .map #[] clock)).map_mk (ents_clear clock)⟩
    simp only [execOp, resolve, invoke, builtin, K.eval hx, Builtin.clear_, Sem.run_bind, Sem.run_pure, Result.andThen_ok, List.map_toArray, List.map_cons, List.map_nil, List.getElem?_toArray, List.getElem?_cons_zero, run_underlying ht, hg]
    rw [run_setObj_put hr rfl]
    simp) h
theorem o_clearMap_ {t Tk Te : TypeId} {x : Operand} (hx : opv l x = some (.map (some k))) (ht : P.underlying t = some (.map Tk Te)) (h : WL P ops Q rest N l W (mapR kv vv k ([] : List (κ × β)) :: L)) :
    WL P ops Q (⟨none, .call { callee := .builtin .clear, args := #[x], argTypes := #[t] }, ty, pos, af, none⟩ :: rest) N l W (mapR kv vv k D :: L) := fun a w K S => by
  obtain ⟨es, clock, he, S'⟩ := S.map_read
  have hr := S'.read.2
  have hg : (getObj k).run P w = .ok (.map es clock) w := by simp [getObj, Sem.run, hr]
  have h1 : (execOp a.eval ⟨none, .call { callee := .builtin .clear, args := #[x], argTypes := #[t] }, ty, pos, af, none⟩).run P w = .ok (.value (.tuple #[])) (World.put w k (.map #[] clock)) := by
    simp only [execOp, resolve, invoke, builtin, K.eval hx, Builtin.clear_, Sem.run_bind, Sem.run_pure, Result.andThen_ok, List.map_toArray, List.map_cons, List.map_nil, List.getElem?_toArray, List.getElem?_cons_zero, run_underlying ht, hg]
    rw [run_setObj_put hr rfl]
    simp
  refine wpListIn_plain rfl fun k hk => wpIn_of_run h1 (by simp) ?_
  exact hk _ _ (h _ _ (K.none _) ((S'.put (o' := .map #[] clock)).map_mk (ents_clear clock)))
end
end Go.Proofs.Ytlblipkcbmcfkaa
