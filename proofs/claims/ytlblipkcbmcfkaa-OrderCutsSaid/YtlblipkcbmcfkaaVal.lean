/- Of each operation that leaves the world alone: the value that it yields. Printed by gq.py out of the texts on operations. -/
import Derived.Test.YtlblipkcbmcfkaaSlice
set_option linter.unusedVariables false
set_option linter.unusedSimpArgs false
namespace Go.Proofs.Ytlblipkcbmcfkaa
open Go.RowKit
section
variable {P : Program} {N : FN} {l : Fr} {W : World} {L L0 : List Res} {Q : Exit → Act → World → Prop} {ops : Array Oper} {rest : List Oper}
variable {d : Nat} {ty : TypeId} {pos : String} {af : Array Edge} {κ β : Type} {kv : κ → Value} {vv : β → Value} {k : Nat} {D : List (κ × β)}
theorem v_move {x : Operand} {v : Value} (hd : Nat.ble (d + 1) N = true) (hx : opv l x = some v) :
    OV P N l W L ⟨some d, .move x, ty, pos, af, none⟩ (v) := (fun a w K _ => by simp [execOp, K.eval hx])
theorem v_assign {x : Operand} {v : Value} (hd : Nat.ble (d + 1) N = true) (hx : opv l x = some v) :
    OV P N l W L ⟨some d, .assign x, ty, pos, af, none⟩ (v) := (fun a w K _ => by simp [execOp, K.eval hx])
theorem v_pick {c x y : Operand} {b : Bool} {v u : Value} (hd : Nat.ble (d + 1) N = true) (hc : opv l c = some (.bool b)) (hx : opv l x = some v) (hy : opv l y = some u) :
    OV P N l W L ⟨some d, .pick c x y, ty, pos, af, none⟩ (if b then v else u) := (fun a w K _ => by cases b <;> simp [execOp, K.eval hx, K.eval hy, K.eval hc, asBool])
theorem v_pick_true {c x y : Operand} {v : Value} (hd : Nat.ble (d + 1) N = true) (hc : opv l c = some (.bool true)) (hx : opv l x = some v) :
    OV P N l W L ⟨some d, .pick c x y, ty, pos, af, none⟩ (v) := (fun a w K _ => by simp [execOp, K.eval hx, K.eval hc, asBool])
theorem v_pick_false {c x y : Operand} {v : Value} (hd : Nat.ble (d + 1) N = true) (hc : opv l c = some (.bool false)) (hy : opv l y = some v) :
    OV P N l W L ⟨some d, .pick c x y, ty, pos, af, none⟩ (v) := (fun a w K _ => by simp [execOp, K.eval hy, K.eval hc, asBool])
theorem v_nil {x : Operand} {p : Addr} (hd : Nat.ble (d + 1) N = true) (hx : opv l x = some (.pointer (some p))) :
    OV P N l W L ⟨some d, .nilCheck x, ty, pos, af, none⟩ (.pointer (some p)) := (fun a w K _ => by simp [execOp, K.eval hx])
theorem v_bin {op : BinOp} {t yt : TypeId} {x y : Operand} {a b r : Value} (hd : Nat.ble (d + 1) N = true) (hx : opv l x = some a) (hy : opv l y = some b) (hr : BinV P op t x y a b r) :
    OV P N l W L ⟨some d, .binOp op t x y yt, ty, pos, af, none⟩ (r) := (fun a w K _ => by
    have := hr w
    rw [Sem.run_bind] at this
    simp only [execOp, K.eval hx, K.eval hy]
    rw [Sem.run_bind, Sem.run_bind, this]
    rfl)
theorem v_not {t : TypeId} {x : Operand} {b : Bool} (hd : Nat.ble (d + 1) N = true) (hx : opv l x = some (.bool b)) :
    OV P N l W L ⟨some d, .unOp .not t x, ty, pos, af, none⟩ (.bool (!b)) := (fun a w K _ => by simp [execOp, K.eval hx, Op.unary])
theorem v_uxor {t : TypeId} {x : Operand} {k : IntKind} {n r : Int} (hd : Nat.ble (d + 1) N = true) (hx : opv l x = some (.int k n)) (hr : ibits .xor k (if k.signed then -1 else k.max) n = r) :
    OV P N l W L ⟨some d, .unOp .xor t x, ty, pos, af, none⟩ (.int k r) := (fun a w K _ => by subst hr; simp [execOp, K.eval hx, Op.unary, Op.intBits, ibits])
theorem v_neg {t : TypeId} {x : Operand} {k : IntKind} {n r : Int} (hd : Nat.ble (d + 1) N = true) (hx : opv l x = some (.int k n)) (hr : k.wrap (-n) = r) :
    OV P N l W L ⟨some d, .unOp .neg t x, ty, pos, af, none⟩ (.int k r) := (fun a w K _ => by simp [execOp, K.eval hx, Op.unary, Op.intArith, hr])
theorem v_int {s t : TypeId} {x : Operand} {k k2 : IntKind} {n r : Int} {sd : TypeDesc} (hd : Nat.ble (d + 1) N = true) (hx : opv l x = some (.int k n)) (hs : P.underlying s = some sd) (ht : P.underlying t = some (.int k2)) (hr : k2.wrap n = r) :
    OV P N l W L ⟨some d, .convert s t x, ty, pos, af, none⟩ (.int k2 r) := (fun a w K _ => by
    simp only [execOp, K.eval hx, convert]
    cases sd <;> simp [run_underlying hs, run_underlying ht, Conv.intToInt, hr])
theorem v_strconv {s t : TypeId} {x : Operand} {u : ByteArray} {sd : TypeDesc} (hd : Nat.ble (d + 1) N = true) (hx : opv l x = some (.string u)) (hs : P.underlying s = some sd) (ht : P.underlying t = some .string) :
    OV P N l W L ⟨some d, .convert s t x, ty, pos, af, none⟩ (.string u) := (fun a w K _ => by
    simp only [execOp, K.eval hx, convert]
    cases sd <;> simp [run_underlying hs, run_underlying ht])
theorem v_extract {x : Operand} {vs : Array Value} {i : Nat} {v : Value} (hd : Nat.ble (d + 1) N = true) (hx : opv l x = some (.tuple vs)) (hv : vs[i]? = some v) :
    OV P N l W L ⟨some d, .extract x i, ty, pos, af, none⟩ (v) := (fun a w K _ => by simp [execOp, K.eval hx, Instr.extract, hv])
theorem v_field1 {t : TypeId} {x : Operand} {i : Nat} {cs : Array Value} {fs : Array Field} {f : Field} {fd : TypeDesc} {v : Value} (hd : Nat.ble (d + 1) N = true) (hx : opv l x = some (.agg cs)) (ht : P.underlying t = some (.struct fs)) (hf : fs[i]? = some f)
    (hu : P.underlying f.type = some fd) (ha : aggD fd = false) (hv : cs[f.offset]? = some v) :
    OV P N l W L ⟨some d, .field t x i, ty, pos, af, none⟩ (v) := (fun a w K _ => by simp [execOp, K.eval hx, Instr.field, run_underlying ht, hf, asAgg, part, run_isAgg hu, ha, hv])
theorem v_fieldn {t : TypeId} {x : Operand} {i : Nat} {cs vs : Array Value} {fs : Array Field} {f : Field} {fd : TypeDesc} {z : Value} {s b : Nat} (hd : Nat.ble (d + 1) N = true) (hx : opv l x = some (.agg cs)) (ht : P.underlying t = some (.struct fs)) (hf : fs[i]? = some f)
    (hu : P.underlying f.type = some fd) (ha : aggD fd = true) (hi : TI P f.type z s b) (hv : cs.extract f.offset (f.offset + s) = vs) :
    OV P N l W L ⟨some d, .field t x i, ty, pos, af, none⟩ (.agg vs) := (fun a w K _ => by simp [execOp, K.eval hx, Instr.field, run_underlying ht, hf, asAgg, part, run_isAgg hu, ha, run_sizeOf' hi, hv])
theorem v_fieldAddr {t : TypeId} {x : Operand} {i : Nat} {p q : Addr} {fs : Array Field} {f : Field} {z : Value} {s b : Nat} (hd : Nat.ble (d + 1) N = true) (hx : opv l x = some (.pointer (some p))) (ht : P.underlying t = some (.struct fs)) (hf : fs[i]? = some f)
    (hi : TI P f.type z (s + 1) b) (hp : p.add f.offset = q) :
    OV P N l W L ⟨some d, .fieldAddr t x i, ty, pos, af, none⟩ (.pointer (some q)) := (fun a w K _ => by simp [execOp, K.eval hx, Instr.fieldAt, run_underlying ht, hf, Instr.sureAddr, fieldPlace, run_sizeOf' hi, hp])
theorem v_lenStr {t : TypeId} {x : Operand} {s : ByteArray} (hd : Nat.ble (d + 1) N = true) (hx : opv l x = some (.string s)) (ht : P.underlying t = some .string) :
    OV P N l W L ⟨some d, .call { callee := .builtin .len, args := #[x], argTypes := #[t] }, ty, pos, af, none⟩ (.int .i64 (s.size : Int)) := (fun a w K _ => by simp [execOp, resolve, invoke, builtin, K.eval hx, Builtin.len_, run_underlying ht, goInt])
theorem v_len {t e : TypeId} {x : Operand} {p : Option Addr} {n c : Nat} (hd : Nat.ble (d + 1) N = true) (hx : opv l x = some (.slice p n c)) (ht : P.underlying t = some (.slice e)) :
    OV P N l W L ⟨some d, .call { callee := .builtin .len, args := #[x], argTypes := #[t] }, ty, pos, af, none⟩ (.int .i64 (n : Int)) := (fun a w K _ => by simp [execOp, resolve, invoke, builtin, K.eval hx, Builtin.len_, run_underlying ht, goInt])
theorem v_strIndex {t : TypeId} {x i : Operand} {s : ByteArray} {k : IntKind} {q : Int} {b : UInt8} (hd : Nat.ble (d + 1) N = true) (hx : opv l x = some (.string s)) (hi : opv l i = some (.int k q)) (ht : P.underlying t = some .string) (h0 : 0 ≤ q) (hb : s.data.toList[q.toNat]? = some b) :
    OV P N l W L ⟨some d, .index t x i, ty, pos, af, none⟩ (.int .u8 (b.toNat : Int)) := (fun a w K _ => by
    have hlt : q.toNat < s.size := by
      have := (List.getElem?_eq_some_iff.1 hb).1
      simpa using this
    have hg : s[q.toNat]? = some b := by
      rw [getElem?_pos s q.toNat hlt]
      have := (List.getElem?_eq_some_iff.1 hb).2
      simp only [Array.getElem_toList] at this
      rw [← this]
      rfl
    simp [execOp, K.eval hx, K.eval hi, Instr.index, asIntOf, run_underlying ht, h0, hg])
theorem v_min {t : TypeId} {x y : Operand} {k : IntKind} {m n : Int} {td : TypeDesc} (hd : Nat.ble (d + 1) N = true) (hx : opv l x = some (.int k m)) (hy : opv l y = some (.int k n)) (ht : P.underlying t = some td) :
    OV P N l W L ⟨some d, .call { callee := .builtin .min, args := #[x, y], argTypes := #[t, t] }, ty, pos, af, none⟩ (.int k (min m n)) := (fun a w K _ => by
    have h9 : (if n < m then n else m) = min m n := by
      rw [Int.min_def]; split <;> split <;> omega
    simp [execOp, resolve, invoke, builtin, K.eval hx, K.eval hy, Builtin.min_, Builtin.min2, h9])
theorem v_max {t : TypeId} {x y : Operand} {k : IntKind} {m n : Int} {td : TypeDesc} (hd : Nat.ble (d + 1) N = true) (hx : opv l x = some (.int k m)) (hy : opv l y = some (.int k n)) (ht : P.underlying t = some td) :
    OV P N l W L ⟨some d, .call { callee := .builtin .max, args := #[x, y], argTypes := #[t, t] }, ty, pos, af, none⟩ (.int k (max m n)) := (fun a w K _ => by
    have h9 : (if m < n then n else m) = max m n := by
      rw [Int.max_def]; split <;> split <;> omega
    simp [execOp, resolve, invoke, builtin, K.eval hx, K.eval hy, Builtin.max_, Builtin.max2, h9])
theorem v_makeFunc {fn : Fn} {first caps : Array Operand} {fs cs : List Value} (hd : Nat.ble (d + 1) N = true) (hf : opvs l first.toList = some fs) (hc : opvs l caps.toList = some cs) :
    OV P N l W L ⟨some d, .makeFunc fn first caps, ty, pos, af, none⟩ (.func fn fs.toArray cs.toArray) := (fun a w K _ => by
    have h1 : first.map a.eval = fs.toArray := by
      have := opvs_map K hf
      apply Array.toList_inj.1
      simpa using this
    have h2 : caps.map a.eval = cs.toArray := by
      have := opvs_map K hc
      apply Array.toList_inj.1
      simpa using this
    simp [execOp, Instr.makeFunc, h1, h2])
theorem v_load1 {t : TypeId} {x : Operand} {p : Addr} {td : TypeDesc} {v : Value} (hd : Nat.ble (d + 1) N = true) (hx : opv l x = some (.pointer (some p))) (hu : P.underlying t = some td) (ha : aggD td = false) (hr : Rd W L p v) :
    OV P N l W L ⟨some d, .load t x, ty, pos, af, none⟩ (v) := (fun a w K S => by simp [execOp, K.eval hx, Instr.loadAt, Instr.sureAddr, loadVar, run_isAgg hu, ha, hr w S])
theorem v_loadn {t : TypeId} {x : Operand} {p : Addr} {td : TypeDesc} {z : Value} {b : Nat} {vs : List Value} (hd : Nat.ble (d + 1) N = true) (hx : opv l x = some (.pointer (some p))) (hu : P.underlying t = some td) (ha : aggD td = true) (hi : TI P t z vs.length b) (hr : RdN W L p vs) :
    OV P N l W L ⟨some d, .load t x, ty, pos, af, none⟩ (.agg vs.toArray) := (fun a w K S => by
    have := run_loadCells_list (P := P) w p vs (hr w S)
    simp [execOp, K.eval hx, Instr.loadAt, Instr.sureAddr, loadVar, run_isAgg hu, ha, run_sizeOf' hi, this])
theorem v_indexK {α : Type} {e : Enc α} {t : TypeId} {x y : Operand} {a : Option Addr} {ad : Addr} {n c : Nat} {k : IntKind} {q : Int} (ok : EncOk P e) (ea : a = some ad) (hd : Nat.ble (d + 1) N = true) (hx : opv l x = some (.slice a n c)) (hy : opv l y = some (.int k q)) (ht : P.underlying t = some (.slice e.T))
    (h0 : 0 ≤ q) (h1 : q < n) :
    OV P N l W L ⟨some d, .indexAddr t x y, ty, pos, af, none⟩ (.pointer (some (ad.add (q.toNat * e.sz)))) := (fun b w K S => by
    subst ea
    simp [execOp, K.eval hx, K.eval hy, Instr.indexAt, asIntOf, run_underlying ht, h0, h1, run_sizeOf' ok.ti])
theorem v_indexArr {t e n : Nat} {x y : Operand} {p p' : Addr} {k : IntKind} {q : Int} {z : Value} {s b : Nat} (hd : Nat.ble (d + 1) N = true) (hx : opv l x = some (.pointer (some p))) (hy : opv l y = some (.int k q)) (ht : P.underlying t = some (.array n e)) (hi : TI P e z s b)
    (h0 : 0 ≤ q) (h1 : q < n) (hp : p.add (q.toNat * s) = p') :
    OV P N l W L ⟨some d, .indexAddr t x y, ty, pos, af, none⟩ (.pointer (some p')) := (fun a w K S => by
    simp [execOp, K.eval hx, K.eval hy, Instr.indexAt, asIntOf, run_underlying ht, h0, h1, run_sizeOf' hi, Instr.sureAddr, hp])
theorem v_cut {t e : Nat} {x : Operand} {lo hi mx : Option Operand} {a : Option Addr} {n c l' h' m : Nat} {z : Value} {s b : Nat} (hd : Nat.ble (d + 1) N = true) (hx : opv l x = some (.slice a n c)) (ht : P.underlying t = some (.slice e)) (hi' : TI P e z s b)
    (hm : (mx = none ∧ m = c) ∨ ∃ o k, mx = some o ∧ opv l o = some (.int k (m : Int)) ∧ m ≤ c) (hh : (hi = none ∧ mx = none ∧ h' = n) ∨ ∃ o k, hi = some o ∧ opv l o = some (.int k (h' : Int)) ∧ h' ≤ m) (hl : (lo = none ∧ l' = 0) ∨ ∃ o k, lo = some o ∧ opv l o = some (.int k (l' : Int)) ∧ l' ≤ h') :
    OV P N l W L ⟨some d, .slice t x lo hi mx, ty, pos, af, none⟩ (.slice (cutA a m l' s) (h' - l') (m - l')) := (fun w0 w K S => by
    have hb : (Instr.sliceBounds true n c (lo.map w0.eval) (hi.map w0.eval) (mx.map w0.eval)).run P w = .ok (l', h', m) w := by
      unfold Instr.sliceBounds
      rcases hm with ⟨rfl, rfl⟩ | ⟨om, km, rfl, hom, hmc⟩ <;> rcases hh with ⟨rfl, hx2, rfl⟩ | ⟨oh, kh, rfl, hoh, hhm⟩ <;> rcases hl with ⟨rfl, rfl⟩ | ⟨ol, kl, rfl, hol, hlh⟩ <;>
        first
        | (cases hx2; done)
        | simp_all [Instr.sliceBound, asIntOf, K.eval, Int.ofNat_le]
    simp only [execOp, K.eval hx, Instr.sliceAt, Instr.slice, Sem.run_bind, run_underlying ht, Result.andThen_ok]
    simp only [Sem.run_bind, run_underlying ht, Result.andThen_ok, hb, run_sizeOf' hi', cutA]
    simp)
theorem v_lookup [DecidableEq κ] {t Tk Te : TypeId} {x y : Operand} {z : Value} {s b : Nat} {q : κ} (i : Nat) (hL : L[i]? = some (mapR kv vv k D)) (ko : KeyOk P Tk kv) (hd : Nat.ble (d + 1) N = true) (hx : opv l x = some (.map (some k))) (hy : opv l y = some (kv q)) (ht : P.underlying t = some (.map Tk Te)) (hz : TI P Te z s b) :
    OV P N l W L ⟨some d, .lookup t x y false, ty, pos, af, none⟩ (((mget D q).map vv).getD z) := (fun a w K S => by
    obtain ⟨L', S'⟩ := mem_idx i hL S
    have := run_lookup ko ht hz q false S'
    simp [execOp, K.eval hx, K.eval hy, this])
theorem v_lookupOk [DecidableEq κ] {t Tk Te : TypeId} {x y : Operand} {z : Value} {s b : Nat} {q : κ} (i : Nat) (hL : L[i]? = some (mapR kv vv k D)) (ko : KeyOk P Tk kv) (hd : Nat.ble (d + 1) N = true) (hx : opv l x = some (.map (some k))) (hy : opv l y = some (kv q)) (ht : P.underlying t = some (.map Tk Te)) (hz : TI P Te z s b) :
    OV P N l W L ⟨some d, .lookup t x y true, ty, pos, af, none⟩ (.tuple #[((mget D q).map vv).getD z, .bool (mget D q).isSome]) := (fun a w K S => by
    obtain ⟨L', S'⟩ := mem_idx i hL S
    have := run_lookup ko ht hz q true S'
    simp [execOp, K.eval hx, K.eval hy, this])
theorem v_lookupD [DecidableEq κ] {t Tk Te : TypeId} {x y : Operand} {s b : Nat} {q : κ} {b0 : β} (i : Nat) (hL : L[i]? = some (mapR kv vv k D)) (ko : KeyOk P Tk kv) (hd : Nat.ble (d + 1) N = true) (hx : opv l x = some (.map (some k))) (hy : opv l y = some (kv q)) (ht : P.underlying t = some (.map Tk Te)) (hz : TI P Te (vv b0) s b) :
    OV P N l W L ⟨some d, .lookup t x y false, ty, pos, af, none⟩ (vv ((mget D q).getD b0)) := (fun a w K S => by
    obtain ⟨L', S'⟩ := mem_idx i hL S
    have := run_lookup ko ht hz q false S'
    have h9 : ((mget D q).map vv).getD (vv b0) = vv ((mget D q).getD b0) := by cases mget D q <;> rfl
    rw [h9] at this
    simp [execOp, K.eval hx, K.eval hy, this])
theorem v_lookupDOk [DecidableEq κ] {t Tk Te : TypeId} {x y : Operand} {s b : Nat} {q : κ} {b0 : β} (i : Nat) (hL : L[i]? = some (mapR kv vv k D)) (ko : KeyOk P Tk kv) (hd : Nat.ble (d + 1) N = true) (hx : opv l x = some (.map (some k))) (hy : opv l y = some (kv q)) (ht : P.underlying t = some (.map Tk Te)) (hz : TI P Te (vv b0) s b) :
    OV P N l W L ⟨some d, .lookup t x y true, ty, pos, af, none⟩ (.tuple #[vv ((mget D q).getD b0), .bool (mget D q).isSome]) := (fun a w K S => by
    obtain ⟨L', S'⟩ := mem_idx i hL S
    have := run_lookup ko ht hz q true S'
    have h9 : ((mget D q).map vv).getD (vv b0) = vv ((mget D q).getD b0) := by cases mget D q <;> rfl
    rw [h9] at this
    simp [execOp, K.eval hx, K.eval hy, this])
theorem v_lenMap {t Tk Te : TypeId} {x : Operand} (i : Nat) (hL : L[i]? = some (mapR kv vv k D)) (hd : Nat.ble (d + 1) N = true) (hx : opv l x = some (.map (some k))) (ht : P.underlying t = some (.map Tk Te)) :
    OV P N l W L ⟨some d, .call { callee := .builtin .len, args := #[x], argTypes := #[t] }, ty, pos, af, none⟩ (.int .i64 (D.length : Int)) := (fun a w K S => by
    obtain ⟨L', S'⟩ := mem_idx i hL S
    obtain ⟨es, clock, he, S2⟩ := S'.map_read
    have hr := S2.read.2
    have hg : (getObj k).run P w = .ok (.map es clock) w := by simp [getObj, Sem.run, hr]
    have hl : es.size = D.length := by
      have := congrArg List.length he.same
      simpa using this
    simp [execOp, resolve, invoke, builtin, K.eval hx, Builtin.len_, run_underlying ht, goInt, hg, hl])
theorem v_build {t : TypeId} {parts : Array (Nat × Operand)} {places : Array (Nat × Nat)} {z : Value} {s b : Nat} {vps : List (Nat × Value)} {cells : Array Value} (hd : Nat.ble (d + 1) N = true) (hst : StructP P t places) (hz : TI P t z s b) (hp : oppsAny l parts.toList = some vps)
    (hf : Instr.fill (places[·]?) z.cells vps = some cells) :
    OV P N l W L ⟨some d, .build t parts, ty, pos, af, none⟩ (.agg cells) := (fun a w K S => by
    obtain ⟨fs, hu, hpl⟩ := hst.is
    have hps : (parts.map fun (p : Nat × Operand) => (p.1, a.eval p.2)).toList = vps := by
      have := oppsAny_map K hp
      simpa using this
    have hb : (Instr.build t (parts.map fun (p : Nat × Operand) => (p.1, a.eval p.2))).run P w = .ok (.agg cells) w := by
      unfold Instr.build
      rw [Sem.run_bind, run_zeroValue' hz, Result.andThen_ok]
      dsimp only
      rw [Sem.run_bind, run_underlying hu, Result.andThen_ok]
      dsimp only
      rw [Sem.run_bind]
      have := hpl w
      unfold placesOf at this
      rw [this, Result.andThen_ok, hps, hf]
      rfl
    simp only [execOp]
    rw [Sem.run_bind]
    first
      | (rw [hb]; rfl)
      | (erw [hb]; rfl))
theorem v_bytesStr {e : Enc UInt8} {s t : TypeId} {x : Operand} {a : Option Addr} {c : Nat} {xs : List UInt8} (hc : e.cells = fun x => [.int .u8 (x.toNat : Int)]) (hd : Nat.ble (d + 1) N = true) (hx : opv l x = some (.slice a xs.length c)) (hs : P.underlying s = some (.slice e.T)) (hT : P.underlying e.T = some (.int .u8)) (ht : P.underlying t = some .string) (hr : RdS W L e a xs) :
    OV P N l W L ⟨some d, .convert s t x, ty, pos, af, none⟩ (.string (bts xs)) := (fun b w K S => by
    have hv : (convert s t (.slice a xs.length c)).run P w = .ok (.string (bts xs)) w := by
      cases a with
      | none =>
        have hn : xs = [] := rds_nilq hr w S rfl
        subst hn
        exact run_convert_bytes_nil w s e.T hs hT _ _ t ht
      | some ad =>
        rw [run_convert_bytes_string w s t e.T _ _ _ hs hT ht]
        have hf := flat_bytes hc xs
        have hl : (loadCells ad xs.length).run P w = .ok ((xs.map (fun x => (x.toNat : Int))).map (Value.int .u8)).toArray w := by
          by_cases h0 : xs = []
          · subst h0; simp [loadCells, loadCellsFrom]
          · obtain ⟨ad', he, hc'⟩ := hr w S h0
            cases he
            have := run_loadCells_list (P := P) w ad ((xs.map (fun x => (x.toNat : Int))).map (Value.int .u8)) (fun j v hj => hc' j v (by rw [hf]; exact hj))
            simpa using this
        rw [run_bytesToString w ad _ c _ hl]
        have h9 := push_bts xs []
        rw [List.nil_append] at h9
        show Result.ok (Value.string _) w = _
        rw [← h9]
        rfl
    simp only [execOp, K.eval hx]
    rw [Sem.run_bind, hv]; rfl)
end
end Go.Proofs.Ytlblipkcbmcfkaa
