/- The twins of the operations that leave the world alone, for regions whose order is open. Printed by gq (wip/eng). -/
import Derived.Test.YtokphffmbennkaaMore
set_option linter.unusedVariables false
set_option linter.unusedSimpArgs false
namespace Go.Proofs.Ytokphffmbennkaa
open Go.RowKit
namespace Qt
section
variable {P : Program} {N : Nat} {l : Fr} {W : World} {L L0 : List Res} {Q : Exit → Act → World → Prop} {ops : Array Oper} {rest : List Oper}
variable {d : Nat} {ty : TypeId} {pos : String} {af : Array Edge} {κ β : Type} [DecidableEq κ] {kv : κ → Value} {vv : β → Value} {k : Nat} {D : List (κ × β)}
theorem o_move {x : Operand} {v : Value} (hd : Nat.ble (d + 1) N = true) (hx : opv l x = some v) (h : WLQ P ops Q rest N ((d, v) :: l) W L) : WLQ P ops Q (⟨some d, .move x, ty, pos, af, none⟩ :: rest) N l W L :=
  o_val hd (fun a w K _ => by simp [execOp, K.eval hx]) h
theorem o_assign {x : Operand} {v : Value} (hd : Nat.ble (d + 1) N = true) (hx : opv l x = some v) (h : WLQ P ops Q rest N ((d, v) :: l) W L) : WLQ P ops Q (⟨some d, .assign x, ty, pos, af, none⟩ :: rest) N l W L :=
  o_val hd (fun a w K _ => by simp [execOp, K.eval hx]) h
theorem o_pick {c x y : Operand} {b : Bool} {v u : Value} (hd : Nat.ble (d + 1) N = true) (hc : opv l c = some (.bool b)) (hx : opv l x = some v) (hy : opv l y = some u) (h : WLQ P ops Q rest N ((d, if b then v else u) :: l) W L) :
    WLQ P ops Q (⟨some d, .pick c x y, ty, pos, af, none⟩ :: rest) N l W L :=
  o_val hd (fun a w K _ => by cases b <;> simp [execOp, K.eval hx, K.eval hy, K.eval hc, asBool]) h
theorem o_pick_true {c x y : Operand} {v : Value} (hd : Nat.ble (d + 1) N = true) (hc : opv l c = some (.bool true)) (hx : opv l x = some v) (h : WLQ P ops Q rest N ((d, v) :: l) W L) :
    WLQ P ops Q (⟨some d, .pick c x y, ty, pos, af, none⟩ :: rest) N l W L :=
  o_val hd (fun a w K _ => by simp [execOp, K.eval hx, K.eval hc, asBool]) h
theorem o_pick_false {c x y : Operand} {v : Value} (hd : Nat.ble (d + 1) N = true) (hc : opv l c = some (.bool false)) (hy : opv l y = some v) (h : WLQ P ops Q rest N ((d, v) :: l) W L) :
    WLQ P ops Q (⟨some d, .pick c x y, ty, pos, af, none⟩ :: rest) N l W L :=
  o_val hd (fun a w K _ => by simp [execOp, K.eval hy, K.eval hc, asBool]) h
theorem o_nil {x : Operand} {p : Addr} (hd : Nat.ble (d + 1) N = true) (hx : opv l x = some (.pointer (some p))) (h : WLQ P ops Q rest N ((d, .pointer (some p)) :: l) W L) :
    WLQ P ops Q (⟨some d, .nilCheck x, ty, pos, af, none⟩ :: rest) N l W L :=
  o_val hd (fun a w K _ => by simp [execOp, K.eval hx]) h
theorem o_bin {op : BinOp} {t yt : TypeId} {x y : Operand} {a b r : Value} (hd : Nat.ble (d + 1) N = true) (hx : opv l x = some a) (hy : opv l y = some b) (hr : BinV P op t x y a b r) (h : WLQ P ops Q rest N ((d, r) :: l) W L) :
    WLQ P ops Q (⟨some d, .binOp op t x y yt, ty, pos, af, none⟩ :: rest) N l W L :=
  o_val hd (fun a w K _ => by
    have := hr w
    rw [Sem.run_bind] at this
    simp only [execOp, K.eval hx, K.eval hy]
    rw [Sem.run_bind, Sem.run_bind, this]
    rfl) h
theorem o_not {t : TypeId} {x : Operand} {b : Bool} (hd : Nat.ble (d + 1) N = true) (hx : opv l x = some (.bool b)) (h : WLQ P ops Q rest N ((d, .bool (!b)) :: l) W L) :
    WLQ P ops Q (⟨some d, .unOp .not t x, ty, pos, af, none⟩ :: rest) N l W L :=
  o_val hd (fun a w K _ => by simp [execOp, K.eval hx, Op.unary]) h
theorem o_uxor {t : TypeId} {x : Operand} {k : IntKind} {n r : Int} (hd : Nat.ble (d + 1) N = true) (hx : opv l x = some (.int k n)) (hr : ibits .xor k (if k.signed then -1 else k.max) n = r) (h : WLQ P ops Q rest N ((d, .int k r) :: l) W L) :
    WLQ P ops Q (⟨some d, .unOp .xor t x, ty, pos, af, none⟩ :: rest) N l W L :=
  o_val hd (fun a w K _ => by subst hr; simp [execOp, K.eval hx, Op.unary, Op.intBits, ibits]) h
theorem o_neg {t : TypeId} {x : Operand} {k : IntKind} {n r : Int} (hd : Nat.ble (d + 1) N = true) (hx : opv l x = some (.int k n)) (hr : k.wrap (-n) = r) (h : WLQ P ops Q rest N ((d, .int k r) :: l) W L) :
    WLQ P ops Q (⟨some d, .unOp .neg t x, ty, pos, af, none⟩ :: rest) N l W L :=
  o_val hd (fun a w K _ => by simp [execOp, K.eval hx, Op.unary, Op.intArith, hr]) h
theorem o_int {s t : TypeId} {x : Operand} {k k2 : IntKind} {n r : Int} {sd : TypeDesc} (hd : Nat.ble (d + 1) N = true) (hx : opv l x = some (.int k n)) (hs : P.underlying s = some sd) (ht : P.underlying t = some (.int k2)) (hr : k2.wrap n = r)
    (h : WLQ P ops Q rest N ((d, .int k2 r) :: l) W L) : WLQ P ops Q (⟨some d, .convert s t x, ty, pos, af, none⟩ :: rest) N l W L :=
  o_val hd (fun a w K _ => by
    simp only [execOp, K.eval hx, convert]
    cases sd <;> simp [run_underlying hs, run_underlying ht, Conv.intToInt, hr]) h
theorem o_strconv {s t : TypeId} {x : Operand} {u : ByteArray} {sd : TypeDesc} (hd : Nat.ble (d + 1) N = true) (hx : opv l x = some (.string u)) (hs : P.underlying s = some sd) (ht : P.underlying t = some .string)
    (h : WLQ P ops Q rest N ((d, .string u) :: l) W L) : WLQ P ops Q (⟨some d, .convert s t x, ty, pos, af, none⟩ :: rest) N l W L :=
  o_val hd (fun a w K _ => by
    simp only [execOp, K.eval hx, convert]
    cases sd <;> simp [run_underlying hs, run_underlying ht]) h
theorem o_extract {x : Operand} {vs : Array Value} {i : Nat} {v : Value} (hd : Nat.ble (d + 1) N = true) (hx : opv l x = some (.tuple vs)) (hv : vs[i]? = some v) (h : WLQ P ops Q rest N ((d, v) :: l) W L) :
    WLQ P ops Q (⟨some d, .extract x i, ty, pos, af, none⟩ :: rest) N l W L :=
  o_val hd (fun a w K _ => by simp [execOp, K.eval hx, Instr.extract, hv]) h
theorem o_field1 {t : TypeId} {x : Operand} {i : Nat} {cs : Array Value} {fs : Array Field} {f : Field} {fd : TypeDesc} {v : Value} (hd : Nat.ble (d + 1) N = true) (hx : opv l x = some (.agg cs)) (ht : P.underlying t = some (.struct fs)) (hf : fs[i]? = some f)
    (hu : P.underlying f.type = some fd) (ha : aggD fd = false) (hv : cs[f.offset]? = some v) (h : WLQ P ops Q rest N ((d, v) :: l) W L) :
    WLQ P ops Q (⟨some d, .field t x i, ty, pos, af, none⟩ :: rest) N l W L :=
  o_val hd (fun a w K _ => by simp [execOp, K.eval hx, Instr.field, run_underlying ht, hf, asAgg, part, run_isAgg hu, ha, hv]) h
theorem o_fieldn {t : TypeId} {x : Operand} {i : Nat} {cs vs : Array Value} {fs : Array Field} {f : Field} {fd : TypeDesc} {z : Value} {s b : Nat} (hd : Nat.ble (d + 1) N = true) (hx : opv l x = some (.agg cs)) (ht : P.underlying t = some (.struct fs)) (hf : fs[i]? = some f)
    (hu : P.underlying f.type = some fd) (ha : aggD fd = true) (hi : TI P f.type z s b) (hv : cs.extract f.offset (f.offset + s) = vs) (h : WLQ P ops Q rest N ((d, .agg vs) :: l) W L) :
    WLQ P ops Q (⟨some d, .field t x i, ty, pos, af, none⟩ :: rest) N l W L :=
  o_val hd (fun a w K _ => by simp [execOp, K.eval hx, Instr.field, run_underlying ht, hf, asAgg, part, run_isAgg hu, ha, run_sizeOf' hi, hv]) h
theorem o_fieldAddr {t : TypeId} {x : Operand} {i : Nat} {p q : Addr} {fs : Array Field} {f : Field} {z : Value} {s b : Nat} (hd : Nat.ble (d + 1) N = true) (hx : opv l x = some (.pointer (some p))) (ht : P.underlying t = some (.struct fs)) (hf : fs[i]? = some f)
    (hi : TI P f.type z (s + 1) b) (hp : p.add f.offset = q) (h : WLQ P ops Q rest N ((d, .pointer (some q)) :: l) W L) :
    WLQ P ops Q (⟨some d, .fieldAddr t x i, ty, pos, af, none⟩ :: rest) N l W L :=
  o_val hd (fun a w K _ => by simp [execOp, K.eval hx, Instr.fieldAt, run_underlying ht, hf, Instr.sureAddr, fieldPlace, run_sizeOf' hi, hp]) h
theorem o_lenStr {t : TypeId} {x : Operand} {s : ByteArray} (hd : Nat.ble (d + 1) N = true) (hx : opv l x = some (.string s)) (ht : P.underlying t = some .string) (h : WLQ P ops Q rest N ((d, .int .i64 (s.size : Int)) :: l) W L) :
    WLQ P ops Q (⟨some d, .call { callee := .builtin .len, args := #[x], argTypes := #[t] }, ty, pos, af, none⟩ :: rest) N l W L :=
  o_val hd (fun a w K _ => by simp [execOp, resolve, invoke, builtin, K.eval hx, Builtin.len_, run_underlying ht, goInt]) h
theorem o_len {t e : TypeId} {x : Operand} {p : Option Addr} {n c : Nat} (hd : Nat.ble (d + 1) N = true) (hx : opv l x = some (.slice p n c)) (ht : P.underlying t = some (.slice e)) (h : WLQ P ops Q rest N ((d, .int .i64 (n : Int)) :: l) W L) :
    WLQ P ops Q (⟨some d, .call { callee := .builtin .len, args := #[x], argTypes := #[t] }, ty, pos, af, none⟩ :: rest) N l W L :=
  o_val hd (fun a w K _ => by simp [execOp, resolve, invoke, builtin, K.eval hx, Builtin.len_, run_underlying ht, goInt]) h
theorem o_strIndex {t : TypeId} {x i : Operand} {s : ByteArray} {k : IntKind} {q : Int} {b : UInt8} (hd : Nat.ble (d + 1) N = true) (hx : opv l x = some (.string s)) (hi : opv l i = some (.int k q)) (ht : P.underlying t = some .string) (h0 : 0 ≤ q) (hb : s.data.toList[q.toNat]? = some b)
    (h : WLQ P ops Q rest N ((d, .int .u8 (b.toNat : Int)) :: l) W L) : WLQ P ops Q (⟨some d, .index t x i, ty, pos, af, none⟩ :: rest) N l W L :=
  o_val hd (fun a w K _ => by
    have hlt : q.toNat < s.size := by
      have := (List.getElem?_eq_some_iff.1 hb).1
      simpa using this
    have hg : s[q.toNat]? = some b := by
      rw [getElem?_pos s q.toNat hlt]
      have := (List.getElem?_eq_some_iff.1 hb).2
      simp only [Array.getElem_toList] at this
      rw [← this]
      rfl
    simp [execOp, K.eval hx, K.eval hi, Instr.index, asIntOf, run_underlying ht, h0, hg]) h
theorem o_load1 {t : TypeId} {x : Operand} {p : Addr} {td : TypeDesc} {v : Value} (hd : Nat.ble (d + 1) N = true) (hx : opv l x = some (.pointer (some p))) (hu : P.underlying t = some td) (ha : aggD td = false) (hr : Rd W L p v)
    (h : WLQ P ops Q rest N ((d, v) :: l) W L) : WLQ P ops Q (⟨some d, .load t x, ty, pos, af, none⟩ :: rest) N l W L :=
  o_val hd (fun a w K S => by simp [execOp, K.eval hx, Instr.loadAt, Instr.sureAddr, loadVar, run_isAgg hu, ha, hr w S]) h
theorem o_loadn {t : TypeId} {x : Operand} {p : Addr} {td : TypeDesc} {z : Value} {b : Nat} {vs : List Value} (hd : Nat.ble (d + 1) N = true) (hx : opv l x = some (.pointer (some p))) (hu : P.underlying t = some td) (ha : aggD td = true) (hi : TI P t z vs.length b) (hr : RdN W L p vs)
    (h : WLQ P ops Q rest N ((d, .agg vs.toArray) :: l) W L) : WLQ P ops Q (⟨some d, .load t x, ty, pos, af, none⟩ :: rest) N l W L :=
  o_val hd (fun a w K S => by
    have := run_loadCells_list (P := P) w p vs (hr w S)
    simp [execOp, K.eval hx, Instr.loadAt, Instr.sureAddr, loadVar, run_isAgg hu, ha, run_sizeOf' hi, this]) h
theorem o_lookup {t Tk Te : TypeId} {x y : Operand} {z : Value} {s b : Nat} {q : κ} (i : Nat) (hL : L[i]? = some (mapR kv vv k D)) (ko : KeyOk P Tk kv) (hd : Nat.ble (d + 1) N = true) (hx : opv l x = some (.map (some k))) (hy : opv l y = some (kv q)) (ht : P.underlying t = some (.map Tk Te)) (hz : TI P Te z s b)
    (h : WLQ P ops Q rest N ((d, ((mget D q).map vv).getD z) :: l) W L) : WLQ P ops Q (⟨some d, .lookup t x y false, ty, pos, af, none⟩ :: rest) N l W L :=
  o_val hd (fun a w K S => by
    obtain ⟨L', S'⟩ := mem_idx i hL S
    have := run_lookup ko ht hz q false S'
    simp [execOp, K.eval hx, K.eval hy, this]) h
theorem o_lookupOk {t Tk Te : TypeId} {x y : Operand} {z : Value} {s b : Nat} {q : κ} (i : Nat) (hL : L[i]? = some (mapR kv vv k D)) (ko : KeyOk P Tk kv) (hd : Nat.ble (d + 1) N = true) (hx : opv l x = some (.map (some k))) (hy : opv l y = some (kv q)) (ht : P.underlying t = some (.map Tk Te)) (hz : TI P Te z s b)
    (h : WLQ P ops Q rest N ((d, .tuple #[((mget D q).map vv).getD z, .bool (mget D q).isSome]) :: l) W L) : WLQ P ops Q (⟨some d, .lookup t x y true, ty, pos, af, none⟩ :: rest) N l W L :=
  o_val hd (fun a w K S => by
    obtain ⟨L', S'⟩ := mem_idx i hL S
    have := run_lookup ko ht hz q true S'
    simp [execOp, K.eval hx, K.eval hy, this]) h
end
end Qt
end Go.Proofs.Ytokphffmbennkaa
