/- One lemma for each operation: numbers, texts, addresses, slices, calls. -/
import Derived.Test.YtlblipkcbmcfkaaStep
import Derived.Maps.AppendAt
set_option linter.unusedVariables false
set_option linter.unusedSimpArgs false
namespace Go.Proofs.Ytlblipkcbmcfkaa
open Go.RowKit

/-- A type's row of the table. -/
def TI (P : Program) (t : TypeId) (z : Value) (size bytes : Nat) : Prop := (P.info? t).map (fun i => (i.zero, i.size, i.bytes)) = some (some z, size, bytes)
theorem TI.get {P : Program} {t : TypeId} {z : Value} {size bytes : Nat} (h : TI P t z size bytes) : ∃ i, P.info? t = some i ∧ i.zero = some z ∧ i.size = size ∧ i.bytes = bytes := by
  obtain ⟨i, hi, he⟩ := Option.map_eq_some_iff.1 h
  simp only [Prod.mk.injEq] at he
  exact ⟨i, hi, he.1, he.2.1, he.2.2⟩
def aggD : TypeDesc → Bool
  | .struct _ => true
  | .array _ _ => true
  | _ => false
theorem run_isAgg {P : Program} {t : TypeId} {d : TypeDesc} (h : P.underlying t = some d) (w : World) : (isAgg t).run P w = .ok (aggD d) w := by
  cases d <;> simp [isAgg, run_underlying h, aggD]
theorem run_sizeOf' {P : Program} {t : TypeId} {z : Value} {s b : Nat} (h : TI P t z s b) (w : World) : (sizeOf t).run P w = .ok s w := by
  obtain ⟨i, hi, _, hs, _⟩ := h.get
  simp [sizeOf, typeInfo, hi, hs]
theorem run_zeroValue' {P : Program} {t : TypeId} {z : Value} {s b : Nat} (h : TI P t z s b) (w : World) : (zeroValue t).run P w = .ok z w := by
  obtain ⟨i, hi, hz, _, _⟩ := h.get
  simp [zeroValue, typeInfo, hi, hz]
theorem Addr.add_add' (a : Addr) (i j : Nat) : (a.add i).add j = a.add (i + j) := by
  by_cases hi : i = 0
  · subst hi; simp [Addr.add]
  · by_cases hj : j = 0
    · subst hj; simp [Addr.add]
    · simp [Addr.add, hi, hj, Nat.add_assoc]

/-! ### Numbers, bools, texts -/
def BinV (P : Program) (op : BinOp) (t : TypeId) (x y : Operand) (a b r : Value) : Prop := ∀ w, (do eqGuard op t x y a b; binOp op t a b : Sem Value).run P w = .ok r w
section
variable {P : Program} {t : TypeId} {x y : Operand} {k : IntKind} {m n r : Int}
theorem b_add (h : k.wrap (m + n) = r) : BinV P .add t x y (.int k m) (.int k n) (.int k r) := fun w => by simp [eqGuard, binOp, Op.intArith, h]
theorem b_sub (h : k.wrap (m - n) = r) : BinV P .sub t x y (.int k m) (.int k n) (.int k r) := fun w => by simp [eqGuard, binOp, Op.intArith, h]
theorem b_mul (h : k.wrap (m * n) = r) : BinV P .mul t x y (.int k m) (.int k n) (.int k r) := fun w => by simp [eqGuard, binOp, Op.intArith, h]
theorem b_quo (h0 : n ≠ 0) (h : k.wrap (m.tdiv n) = r) : BinV P .quo t x y (.int k m) (.int k n) (.int k r) := fun w => by simp [eqGuard, binOp, Op.intDiv, h0, h]
theorem b_rem (h0 : n ≠ 0) (h : m.tmod n = r) : BinV P .rem t x y (.int k m) (.int k n) (.int k r) := fun w => by simp [eqGuard, binOp, Op.intDiv, h0, h]
theorem b_lss : BinV P .lss t x y (.int k m) (.int k n) (.bool (decide (m < n))) := fun w => by simp [eqGuard, binOp, Op.intCmp]
theorem b_leq : BinV P .leq t x y (.int k m) (.int k n) (.bool (decide (m ≤ n))) := fun w => by simp [eqGuard, binOp, Op.intCmp]
theorem b_gtr : BinV P .gtr t x y (.int k m) (.int k n) (.bool (decide (n < m))) := fun w => by simp [eqGuard, binOp, Op.intCmp]
theorem b_geq : BinV P .geq t x y (.int k m) (.int k n) (.bool (decide (n ≤ m))) := fun w => by simp [eqGuard, binOp, Op.intCmp]
theorem b_eql : BinV P .eql t x y (.int k m) (.int k n) (.bool (decide (m = n))) := fun w => by simp [eqGuard, binOp, Op.intCmp]; rfl
theorem b_neq : BinV P .neq t x y (.int k m) (.int k n) (.bool (!decide (m = n))) := fun w => by simp [eqGuard, binOp, Op.intCmp]; rfl
def ibits (op : BinOp) (k : IntKind) (a b : Int) : Int :=
  match op with
  | .and => k.wrap (BitVec.ofInt k.bits a &&& BitVec.ofInt k.bits b).toNat
  | .or => k.wrap (BitVec.ofInt k.bits a ||| BitVec.ofInt k.bits b).toNat
  | .xor => k.wrap (BitVec.ofInt k.bits a ^^^ BitVec.ofInt k.bits b).toNat
  | _ => k.wrap (BitVec.ofInt k.bits a &&& ~~~BitVec.ofInt k.bits b).toNat
theorem b_and (h : ibits .and k m n = r) : BinV P .and t x y (.int k m) (.int k n) (.int k r) := fun w => by subst h; simp [eqGuard, binOp, Op.intBits, ibits]
theorem b_or (h : ibits .or k m n = r) : BinV P .or t x y (.int k m) (.int k n) (.int k r) := fun w => by subst h; simp [eqGuard, binOp, Op.intBits, ibits]
theorem b_xor (h : ibits .xor k m n = r) : BinV P .xor t x y (.int k m) (.int k n) (.int k r) := fun w => by subst h; simp [eqGuard, binOp, Op.intBits, ibits]
theorem b_shl {k2 : IntKind} (h0 : 0 ≤ n) (h : k.wrap (m * 2 ^ (min n.toNat k.bits)) = r) : BinV P .shl t x y (.int k m) (.int k2 n) (.int k r) := fun w => by
  subst h; simp [eqGuard, binOp, Op.shift, show ¬ n < 0 by omega]
theorem b_shr {k2 : IntKind} (h0 : 0 ≤ n) (h : m.fdiv (2 ^ (min n.toNat k.bits)) = r) : BinV P .shr t x y (.int k m) (.int k2 n) (.int k r) := fun w => by
  subst h; simp [eqGuard, binOp, Op.shift, show ¬ n < 0 by omega]
end
theorem toList_eq_iff {s u : ByteArray} : (s.toList == u.toList) = decide (s = u) := by
  rw [Bool.eq_iff_iff]
  simp only [beq_iff_eq, decide_eq_true_eq]
  constructor
  · intro h
    have h1 : s.data.toList = u.data.toList := by simpa [ByteArray.toList_eq] using h
    cases s; cases u
    simp at h1
    simpa using h1
  · intro h; rw [h]
section
variable {P : Program} {t : TypeId} {x y : Operand} {s u : ByteArray}
theorem b_seql : BinV P .eql t x y (.string s) (.string u) (.bool (decide (s = u))) := fun w => by simp [eqGuard, binOp, Op.stringOp, toList_eq_iff]
theorem b_sneq : BinV P .neq t x y (.string s) (.string u) (.bool (!decide (s = u))) := fun w => by simp [eqGuard, binOp, Op.stringOp, toList_eq_iff]
def slt (s u : ByteArray) : Bool := Op.bytesLess s.data.toList u.data.toList
theorem b_slss : BinV P .lss t x y (.string s) (.string u) (.bool (slt s u)) := fun w => by simp [eqGuard, binOp, Op.stringOp, slt, ByteArray.toList_eq]
theorem b_sgeq : BinV P .geq t x y (.string s) (.string u) (.bool (!slt s u)) := fun w => by simp [eqGuard, binOp, Op.stringOp, slt, ByteArray.toList_eq]
end
section
variable {P : Program} {t e : TypeId} {x y : Operand}
theorem binV_of {op : BinOp} {a b r : Value} (h : ∀ w, (eqGuard op t x y a b).run P w = .ok () w) (hr : ∀ w, (binOp op t a b).run P w = .ok r w) : BinV P op t x y a b r := fun w => by
  rw [Sem.run_bind, h w]
  exact hr w
theorem pointee_of (ht : P.underlying t = some (.pointer e)) : P.underlying t = some (.pointer (P.pointee t)) := by
  simp [Program.pointee, ht]
theorem b_peq (ht : P.underlying t = some (.pointer e)) (p : Option Addr) : BinV P .eql t x y (.pointer p) (.pointer none) (.bool p.isNone) := binV_of (fun w => by simp [eqGuard]) fun w => run_eql_pointer_nil w t p (pointee_of ht)
theorem b_pne (ht : P.underlying t = some (.pointer e)) (p : Option Addr) : BinV P .neq t x y (.pointer p) (.pointer none) (.bool (!p.isNone)) := binV_of (fun w => by simp [eqGuard]) fun w => run_neq_pointer_nil w t p (pointee_of ht)
theorem b_sleq (ht : P.underlying t = some (.slice e)) (p : Option Addr) (n c : Nat) : BinV P .eql t x y (.slice p n c) (.slice none 0 0) (.bool p.isNone) := binV_of (fun w => by simp [eqGuard]) fun w => Lib.run_eql_slice_nil w t e p n c 0 0 ht
theorem b_slne (ht : P.underlying t = some (.slice e)) (p : Option Addr) (n c : Nat) : BinV P .neq t x y (.slice p n c) (.slice none 0 0) (.bool (!p.isNone)) := binV_of (fun w => by simp [eqGuard]) fun w => run_neq_slice_nil w t e p n c ht
theorem b_beq (ht : P.underlying t = some .bool) (a b : Bool) : BinV P .eql t x y (.bool a) (.bool b) (.bool (a == b)) := binV_of (fun w => by simp [eqGuard]) fun w => run_eql_bool w t a b ht
theorem b_bne (ht : P.underlying t = some .bool) (a b : Bool) : BinV P .neq t x y (.bool a) (.bool b) (.bool (!(a == b))) := binV_of (fun w => by simp [eqGuard]) fun w => run_neq_bool w t a b ht
end

/-! ### The steps -/
def opvs (l : Fr) : List Operand → Option (List Value)
  | [] => some []
  | x :: xs => match opv l x, opvs l xs with
    | some v, some vs => some (v :: vs)
    | _, _ => none
theorem opvs_map {a : Act} {N : FN} {l : Fr} (K : Know a N l) : ∀ {xs : List Operand} {vs : List Value}, opvs l xs = some vs → xs.map a.eval = vs
  | [], vs, h => by simp only [opvs, Option.some.injEq] at h; subst h; rfl
  | x :: xs, vs, h => by
    simp only [opvs] at h
    split at h
    · rename_i v vs' h1 h2
      simp only [Option.some.injEq] at h
      subst h
      simp [K.eval h1, opvs_map K h2]
    · cases h
structure Callable (P : Program) (f : FuncId) : Prop where
  is : ∃ fn, P.funcs[f]? = some fn ∧ fn.body.isNone = false ∧ (fn.name == "runtime.NumGoroutine") = false

section
variable {P : Program} {N : FN} {l : Fr} {W : World} {L L0 : List Res} {Q : Exit → Act → World → Prop} {ops : Array Oper} {rest : List Oper}
variable {d : Nat} {ty : TypeId} {pos : String} {af : Array Edge}

theorem o_runx {α : Type} {op : Op} {vv : α → Value} {LL : α → List Res} (hd : Nat.ble (d + 1) N = true)
    (hr : ∀ a w, Know a N l → Sat W w L → ∃ x w', (execOp a.eval ⟨some d, op, ty, pos, af, none⟩).run P w = .ok (.value (vv x)) w' ∧ Sat W w' (LL x))
    (h : ∀ x, WL P ops Q rest N ((d, vv x) :: l) W (LL x)) : WL P ops Q (⟨some d, op, ty, pos, af, none⟩ :: rest) N l W L := fun a w K S => by
  obtain ⟨x, w', h1, h2⟩ := hr a w K S
  refine wpListIn_plain rfl fun k hk => wpIn_of_run h1 (by simp) ?_
  exact hk _ _ (h x _ _ (K.put hd _) h2)
theorem o_move {x : Operand} {v : Value} (hd : Nat.ble (d + 1) N = true) (hx : opv l x = some v) (h : WL P ops Q rest N ((d, v) :: l) W L) : WL P ops Q (⟨some d, .move x, ty, pos, af, none⟩ :: rest) N l W L :=
  o_val hd (fun a w K _ => by simp [execOp, K.eval hx]) h
theorem o_assign {x : Operand} {v : Value} (hd : Nat.ble (d + 1) N = true) (hx : opv l x = some v) (h : WL P ops Q rest N ((d, v) :: l) W L) : WL P ops Q (⟨some d, .assign x, ty, pos, af, none⟩ :: rest) N l W L :=
  o_val hd (fun a w K _ => by simp [execOp, K.eval hx]) h
theorem o_pick {c x y : Operand} {b : Bool} {v u : Value} (hd : Nat.ble (d + 1) N = true) (hc : opv l c = some (.bool b)) (hx : opv l x = some v) (hy : opv l y = some u) (h : WL P ops Q rest N ((d, if b then v else u) :: l) W L) :
    WL P ops Q (⟨some d, .pick c x y, ty, pos, af, none⟩ :: rest) N l W L :=
  o_val hd (fun a w K _ => by cases b <;> simp [execOp, K.eval hx, K.eval hy, K.eval hc, asBool]) h
theorem o_pick_true {c x y : Operand} {v : Value} (hd : Nat.ble (d + 1) N = true) (hc : opv l c = some (.bool true)) (hx : opv l x = some v) (h : WL P ops Q rest N ((d, v) :: l) W L) :
    WL P ops Q (⟨some d, .pick c x y, ty, pos, af, none⟩ :: rest) N l W L :=
  o_val hd (fun a w K _ => by simp [execOp, K.eval hx, K.eval hc, asBool]) h
theorem o_pick_false {c x y : Operand} {v : Value} (hd : Nat.ble (d + 1) N = true) (hc : opv l c = some (.bool false)) (hy : opv l y = some v) (h : WL P ops Q rest N ((d, v) :: l) W L) :
    WL P ops Q (⟨some d, .pick c x y, ty, pos, af, none⟩ :: rest) N l W L :=
  o_val hd (fun a w K _ => by simp [execOp, K.eval hy, K.eval hc, asBool]) h
theorem o_nil {x : Operand} {p : Addr} (hd : Nat.ble (d + 1) N = true) (hx : opv l x = some (.pointer (some p))) (h : WL P ops Q rest N ((d, .pointer (some p)) :: l) W L) :
    WL P ops Q (⟨some d, .nilCheck x, ty, pos, af, none⟩ :: rest) N l W L :=
  o_val hd (fun a w K _ => by simp [execOp, K.eval hx]) h
theorem o_bin {op : BinOp} {t yt : TypeId} {x y : Operand} {a b r : Value} (hd : Nat.ble (d + 1) N = true) (hx : opv l x = some a) (hy : opv l y = some b) (hr : BinV P op t x y a b r) (h : WL P ops Q rest N ((d, r) :: l) W L) :
    WL P ops Q (⟨some d, .binOp op t x y yt, ty, pos, af, none⟩ :: rest) N l W L :=
  o_val hd (fun a w K _ => by
    have := hr w
    rw [Sem.run_bind] at this
    simp only [execOp, K.eval hx, K.eval hy]
    rw [Sem.run_bind, Sem.run_bind, this]
    rfl) h
theorem o_not {t : TypeId} {x : Operand} {b : Bool} (hd : Nat.ble (d + 1) N = true) (hx : opv l x = some (.bool b)) (h : WL P ops Q rest N ((d, .bool (!b)) :: l) W L) :
    WL P ops Q (⟨some d, .unOp .not t x, ty, pos, af, none⟩ :: rest) N l W L :=
  o_val hd (fun a w K _ => by simp [execOp, K.eval hx, Op.unary]) h
theorem o_uxor {t : TypeId} {x : Operand} {k : IntKind} {n r : Int} (hd : Nat.ble (d + 1) N = true) (hx : opv l x = some (.int k n)) (hr : ibits .xor k (if k.signed then -1 else k.max) n = r) (h : WL P ops Q rest N ((d, .int k r) :: l) W L) :
    WL P ops Q (⟨some d, .unOp .xor t x, ty, pos, af, none⟩ :: rest) N l W L :=
  o_val hd (fun a w K _ => by subst hr; simp [execOp, K.eval hx, Op.unary, Op.intBits, ibits]) h
theorem o_neg {t : TypeId} {x : Operand} {k : IntKind} {n r : Int} (hd : Nat.ble (d + 1) N = true) (hx : opv l x = some (.int k n)) (hr : k.wrap (-n) = r) (h : WL P ops Q rest N ((d, .int k r) :: l) W L) :
    WL P ops Q (⟨some d, .unOp .neg t x, ty, pos, af, none⟩ :: rest) N l W L :=
  o_val hd (fun a w K _ => by simp [execOp, K.eval hx, Op.unary, Op.intArith, hr]) h
theorem o_int {s t : TypeId} {x : Operand} {k k2 : IntKind} {n r : Int} {sd : TypeDesc} (hd : Nat.ble (d + 1) N = true) (hx : opv l x = some (.int k n)) (hs : P.underlying s = some sd) (ht : P.underlying t = some (.int k2)) (hr : k2.wrap n = r)
    (h : WL P ops Q rest N ((d, .int k2 r) :: l) W L) : WL P ops Q (⟨some d, .convert s t x, ty, pos, af, none⟩ :: rest) N l W L :=
  o_val hd (fun a w K _ => by
    simp only [execOp, K.eval hx, convert]
    cases sd <;> simp [run_underlying hs, run_underlying ht, Conv.intToInt, hr]) h
theorem o_strconv {s t : TypeId} {x : Operand} {u : ByteArray} {sd : TypeDesc} (hd : Nat.ble (d + 1) N = true) (hx : opv l x = some (.string u)) (hs : P.underlying s = some sd) (ht : P.underlying t = some .string)
    (h : WL P ops Q rest N ((d, .string u) :: l) W L) : WL P ops Q (⟨some d, .convert s t x, ty, pos, af, none⟩ :: rest) N l W L :=
  o_val hd (fun a w K _ => by
    simp only [execOp, K.eval hx, convert]
    cases sd <;> simp [run_underlying hs, run_underlying ht]) h
theorem o_extract {x : Operand} {vs : Array Value} {i : Nat} {v : Value} (hd : Nat.ble (d + 1) N = true) (hx : opv l x = some (.tuple vs)) (hv : vs[i]? = some v) (h : WL P ops Q rest N ((d, v) :: l) W L) :
    WL P ops Q (⟨some d, .extract x i, ty, pos, af, none⟩ :: rest) N l W L :=
  o_val hd (fun a w K _ => by simp [execOp, K.eval hx, Instr.extract, hv]) h
theorem o_field1 {t : TypeId} {x : Operand} {i : Nat} {cs : Array Value} {fs : Array Field} {f : Field} {fd : TypeDesc} {v : Value} (hd : Nat.ble (d + 1) N = true) (hx : opv l x = some (.agg cs)) (ht : P.underlying t = some (.struct fs)) (hf : fs[i]? = some f)
    (hu : P.underlying f.type = some fd) (ha : aggD fd = false) (hv : cs[f.offset]? = some v) (h : WL P ops Q rest N ((d, v) :: l) W L) :
    WL P ops Q (⟨some d, .field t x i, ty, pos, af, none⟩ :: rest) N l W L :=
  o_val hd (fun a w K _ => by simp [execOp, K.eval hx, Instr.field, run_underlying ht, hf, asAgg, part, run_isAgg hu, ha, hv]) h
theorem o_fieldn {t : TypeId} {x : Operand} {i : Nat} {cs vs : Array Value} {fs : Array Field} {f : Field} {fd : TypeDesc} {z : Value} {s b : Nat} (hd : Nat.ble (d + 1) N = true) (hx : opv l x = some (.agg cs)) (ht : P.underlying t = some (.struct fs)) (hf : fs[i]? = some f)
    (hu : P.underlying f.type = some fd) (ha : aggD fd = true) (hi : TI P f.type z s b) (hv : cs.extract f.offset (f.offset + s) = vs) (h : WL P ops Q rest N ((d, .agg vs) :: l) W L) :
    WL P ops Q (⟨some d, .field t x i, ty, pos, af, none⟩ :: rest) N l W L :=
  o_val hd (fun a w K _ => by simp [execOp, K.eval hx, Instr.field, run_underlying ht, hf, asAgg, part, run_isAgg hu, ha, run_sizeOf' hi, hv]) h
theorem o_fieldAddr {t : TypeId} {x : Operand} {i : Nat} {p q : Addr} {fs : Array Field} {f : Field} {z : Value} {s b : Nat} (hd : Nat.ble (d + 1) N = true) (hx : opv l x = some (.pointer (some p))) (ht : P.underlying t = some (.struct fs)) (hf : fs[i]? = some f)
    (hi : TI P f.type z (s + 1) b) (hp : p.add f.offset = q) (h : WL P ops Q rest N ((d, .pointer (some q)) :: l) W L) :
    WL P ops Q (⟨some d, .fieldAddr t x i, ty, pos, af, none⟩ :: rest) N l W L :=
  o_val hd (fun a w K _ => by simp [execOp, K.eval hx, Instr.fieldAt, run_underlying ht, hf, Instr.sureAddr, fieldPlace, run_sizeOf' hi, hp]) h
theorem o_lenStr {t : TypeId} {x : Operand} {s : ByteArray} (hd : Nat.ble (d + 1) N = true) (hx : opv l x = some (.string s)) (ht : P.underlying t = some .string) (h : WL P ops Q rest N ((d, .int .i64 (s.size : Int)) :: l) W L) :
    WL P ops Q (⟨some d, .call { callee := .builtin .len, args := #[x], argTypes := #[t] }, ty, pos, af, none⟩ :: rest) N l W L :=
  o_val hd (fun a w K _ => by simp [execOp, resolve, invoke, builtin, K.eval hx, Builtin.len_, run_underlying ht, goInt]) h
theorem o_len {t e : TypeId} {x : Operand} {p : Option Addr} {n c : Nat} (hd : Nat.ble (d + 1) N = true) (hx : opv l x = some (.slice p n c)) (ht : P.underlying t = some (.slice e)) (h : WL P ops Q rest N ((d, .int .i64 (n : Int)) :: l) W L) :
    WL P ops Q (⟨some d, .call { callee := .builtin .len, args := #[x], argTypes := #[t] }, ty, pos, af, none⟩ :: rest) N l W L :=
  o_val hd (fun a w K _ => by simp [execOp, resolve, invoke, builtin, K.eval hx, Builtin.len_, run_underlying ht, goInt]) h
theorem o_strIndex {t : TypeId} {x i : Operand} {s : ByteArray} {k : IntKind} {q : Int} {b : UInt8} (hd : Nat.ble (d + 1) N = true) (hx : opv l x = some (.string s)) (hi : opv l i = some (.int k q)) (ht : P.underlying t = some .string) (h0 : 0 ≤ q) (hb : s.data.toList[q.toNat]? = some b)
    (h : WL P ops Q rest N ((d, .int .u8 (b.toNat : Int)) :: l) W L) : WL P ops Q (⟨some d, .index t x i, ty, pos, af, none⟩ :: rest) N l W L :=
  o_val hd (fun a w K _ => by
    have hlt : q.toNat < s.size := by
      have := (List.getElem?_eq_some_iff.1 hb).1
      simpa using this
    have hg : s[q.toNat]? = some b := by
      rw [getElem?_pos s q.toNat hlt]
      have := (List.getElem?_eq_some_iff.1 hb).2
      simp only [Array.getElem_toList] at this
      rw [← this]
      rfl
    simp [execOp, K.eval hx, K.eval hi, Instr.index, asIntOf, run_underlying ht, h0, hg]) h

theorem o_min {t : TypeId} {x y : Operand} {k : IntKind} {m n : Int} {td : TypeDesc} (hd : Nat.ble (d + 1) N = true) (hx : opv l x = some (.int k m)) (hy : opv l y = some (.int k n)) (ht : P.underlying t = some td) (h : WL P ops Q rest N ((d, .int k (min m n)) :: l) W L) :
    WL P ops Q (⟨some d, .call { callee := .builtin .min, args := #[x, y], argTypes := #[t, t] }, ty, pos, af, none⟩ :: rest) N l W L :=
  o_val hd (fun a w K _ => by
    have h9 : (if n < m then n else m) = min m n := by
      rw [Int.min_def]; split <;> split <;> omega
    simp [execOp, resolve, invoke, builtin, K.eval hx, K.eval hy, Builtin.min_, Builtin.min2, h9]) h
theorem o_max {t : TypeId} {x y : Operand} {k : IntKind} {m n : Int} {td : TypeDesc} (hd : Nat.ble (d + 1) N = true) (hx : opv l x = some (.int k m)) (hy : opv l y = some (.int k n)) (ht : P.underlying t = some td) (h : WL P ops Q rest N ((d, .int k (max m n)) :: l) W L) :
    WL P ops Q (⟨some d, .call { callee := .builtin .max, args := #[x, y], argTypes := #[t, t] }, ty, pos, af, none⟩ :: rest) N l W L :=
  o_val hd (fun a w K _ => by
    have h9 : (if m < n then n else m) = max m n := by
      rw [Int.max_def]; split <;> split <;> omega
    simp [execOp, resolve, invoke, builtin, K.eval hx, K.eval hy, Builtin.max_, Builtin.max2, h9]) h
/-! ### Calls -/
theorem calls_in {f : FuncId} {args : Array Value} {w : World} {R : Ending → World → Prop} {ro : Option Nat} (h : Calls P f args w R) : CallsIn (fen ro) 0 P f args w R := by
  have h1 : CallsIn Fence.wide 0 P f args w R := callsIn_wide.2 h
  exact h1
/-- What a function's value does when it is called. -/
def FV (P : Program) (fv : Value) (args : List Value) (W : World) (L : List Res) (post : Value → List Res → Prop) : Prop :=
  ∀ w, Sat W w L → ∀ (ρ : Operand → Value) (x : Operand) (as : Array Operand) (tys : Array TypeId) (dst : Option Tmp) (ty : TypeId) (pos : String) (af : Array Edge) (g : Option (Nat × Bool)), ρ x = fv → as.map ρ = args.toArray →
    ∃ n w', (execOp ρ ⟨dst, .call { callee := .value x, args := as, argTypes := tys }, ty, pos, af, g⟩).run P w = .ok n w' ∧
      ((∃ f vs, n = .enter f vs ∧ Calls P f vs w' fun e w'' => ∃ v L', e = .returned v ∧ post v L' ∧ Sat W w'' L') ∨
       (∃ l f tmps assign body, n = .round l f tmps assign body ∧ RoundIn Fence.wide 0 P l f tmps assign body w' fun e w'' => ∃ v L', e = .returned v ∧ post v L' ∧ Sat W w'' L'))
theorem FV.of_cs {f : FuncId} {first caps : Array Value} {args : List Value} {post : Value → List Res → Prop} (hcl : Callable P f) (h : CS P f (first ++ args.toArray ++ caps) W L post) : FV P (.func (.func f) first caps) args W L post := fun w S ρ x as tys dst ty pos af g hx ha => by
  obtain ⟨fn, hf, hb, hn⟩ := hcl.is
  have hn' : ¬ fn.name = "runtime.NumGoroutine" := by simpa using hn
  have hb' : ¬ fn.body = none := by
    intro h0
    rw [h0] at hb
    cases hb
  refine ⟨_, w, ?_, .inl ⟨f, first ++ args.toArray ++ caps, rfl, h w S⟩⟩
  simp [execOp, resolve, Deferred.ofValue, invoke, callFunc, ha, hx, hf, hb', hn']
theorem FV.of_csL {f : FuncId} {first caps args : List Value} {post : Value → List Res → Prop} (hcl : Callable P f) (h : CS P f (first ++ args ++ caps).toArray W L post) : FV P (.func (.func f) first.toArray caps.toArray) args W L post :=
  FV.of_cs hcl (by simpa using h)
theorem FV.mono {fv : Value} {args : List Value} {post post' : Value → List Res → Prop} (h : FV P fv args W L post) (hi : ∀ v L', post v L' → post' v L') : FV P fv args W L post' := fun w S ρ x as tys dst ty pos af g hx ha => by
  obtain ⟨n, w', h1, h2⟩ := h w S ρ x as tys dst ty pos af g hx ha
  refine ⟨n, w', h1, ?_⟩
  rcases h2 with ⟨f, vs, he, hc⟩ | ⟨l, f, tmps, assign, body, he, hc⟩
  · exact .inl ⟨f, vs, he, hc.mono fun _ _ ⟨v, L', he, hp, hs⟩ => ⟨v, L', he, hi v L' hp, hs⟩⟩
  · exact .inr ⟨l, f, tmps, assign, body, he, hc.mono fun _ _ ⟨v, L', he, hp, hs⟩ => ⟨v, L', he, hi v L' hp, hs⟩⟩
theorem FV.conv {fv : Value} {args : List Value} {L' : List Res} {post : Value → List Res → Prop} (hc : ∀ w, Sat W w L → Sat W w L') (h : FV P fv args W L' post) : FV P fv args W L post := fun w S => h w (hc w S)
/-- Any function's value that is known is called. -/
theorem o_callV {x : Operand} {fv : Value} {args : Array Operand} {tys : Array TypeId} {vs : List Value} {post : Value → List Res → Prop} (hd : Nat.ble (d + 1) N = true) (hx : opv l x = some fv) (ha : opvs l args.toList = some vs) (hc : FV P fv vs W L post)
    (h : ∀ v L', post v L' → WL P ops Q rest N ((d, v) :: l) W L') : WL P ops Q (⟨some d, .call { callee := .value x, args := args, argTypes := tys }, ty, pos, af, none⟩ :: rest) N l W L := fun a w K S => by
  have hm : args.map a.eval = vs.toArray := by
    have := opvs_map K ha
    apply Array.toList_inj.1
    simpa using this
  obtain ⟨n, w', h1, h2⟩ := hc w S a.eval x args tys (some d) ty pos af none (K.eval hx) hm
  refine wpListIn_plain rfl fun k hk => ?_
  rcases h2 with ⟨f, as, rfl, hcc⟩ | ⟨l', f, tmps, assign, body, rfl, hcc⟩
  · refine wpIn_of_run h1 (by simp) ⟨by simp [fen], (calls_in hcc).mono ?_⟩
    rintro e w' ⟨v, L', rfl, hp, hs⟩
    exact hk _ _ (h v L' hp _ _ (K.put hd v) hs)
  · have hcc' : RoundIn (fen N.ro) 0 P l' f tmps assign body w' _ := hcc
    refine wpIn_of_run h1 (by simp) ⟨by simp [fen], hcc'.mono ?_⟩
    rintro e w' ⟨v, L', rfl, hp, hs⟩
    exact hk _ _ (h v L' hp _ _ (K.put hd v) hs)
theorem o_callV_ {x : Operand} {fv : Value} {args : Array Operand} {tys : Array TypeId} {vs : List Value} {post : Value → List Res → Prop} (hx : opv l x = some fv) (ha : opvs l args.toList = some vs) (hc : FV P fv vs W L post)
    (h : ∀ v L', post v L' → WL P ops Q rest N l W L') : WL P ops Q (⟨none, .call { callee := .value x, args := args, argTypes := tys }, ty, pos, af, none⟩ :: rest) N l W L := fun a w K S => by
  have hm : args.map a.eval = vs.toArray := by
    have := opvs_map K ha
    apply Array.toList_inj.1
    simpa using this
  obtain ⟨n, w', h1, h2⟩ := hc w S a.eval x args tys none ty pos af none (K.eval hx) hm
  refine wpListIn_plain rfl fun k hk => ?_
  rcases h2 with ⟨f, as, rfl, hcc⟩ | ⟨l', f, tmps, assign, body, rfl, hcc⟩
  · refine wpIn_of_run h1 (by simp) ⟨by simp [fen], (calls_in hcc).mono ?_⟩
    rintro e w' ⟨v, L', rfl, hp, hs⟩
    exact hk _ _ (h v L' hp _ _ (K.none v) hs)
  · have hcc' : RoundIn (fen N.ro) 0 P l' f tmps assign body w' _ := hcc
    refine wpIn_of_run h1 (by simp) ⟨by simp [fen], hcc'.mono ?_⟩
    rintro e w' ⟨v, L', rfl, hp, hs⟩
    exact hk _ _ (h v L' hp _ _ (K.none v) hs)
theorem o_call {f : FuncId} {args : Array Operand} {tys : Array TypeId} {vs : List Value} {post : Value → List Res → Prop} (hd : Nat.ble (d + 1) N = true) (hcl : Callable P f) (ha : opvs l args.toList = some vs) (hc : CS P f vs.toArray W L post)
    (h : ∀ v L', post v L' → WL P ops Q rest N ((d, v) :: l) W L') : WL P ops Q (⟨some d, .call { callee := .value (.func f), args := args, argTypes := tys }, ty, pos, af, none⟩ :: rest) N l W L :=
  o_callV hd (x := .func f) rfl ha (FV.of_cs hcl (by simpa using hc)) h
theorem o_call_ {f : FuncId} {args : Array Operand} {tys : Array TypeId} {vs : List Value} {post : Value → List Res → Prop} (hcl : Callable P f) (ha : opvs l args.toList = some vs) (hc : CS P f vs.toArray W L post)
    (h : ∀ v L', post v L' → WL P ops Q rest N l W L') : WL P ops Q (⟨none, .call { callee := .value (.func f), args := args, argTypes := tys }, ty, pos, af, none⟩ :: rest) N l W L :=
  o_callV_ (x := .func f) rfl ha (FV.of_cs hcl (by simpa using hc)) h
/-- A function's value is made: with what it captures. -/
theorem o_makeFunc {fn : Fn} {first caps : Array Operand} {fs cs : List Value} (hd : Nat.ble (d + 1) N = true) (hf : opvs l first.toList = some fs) (hc : opvs l caps.toList = some cs) (h : WL P ops Q rest N ((d, .func fn fs.toArray cs.toArray) :: l) W L) :
    WL P ops Q (⟨some d, .makeFunc fn first caps, ty, pos, af, none⟩ :: rest) N l W L :=
  o_val hd (fun a w K _ => by
    have h1 : first.map a.eval = fs.toArray := by
      have := opvs_map K hf
      apply Array.toList_inj.1
      simpa using this
    have h2 : caps.map a.eval = cs.toArray := by
      have := opvs_map K hc
      apply Array.toList_inj.1
      simpa using this
    simp [execOp, Instr.makeFunc, h1, h2]) h
end
end Go.Proofs.Ytlblipkcbmcfkaa
